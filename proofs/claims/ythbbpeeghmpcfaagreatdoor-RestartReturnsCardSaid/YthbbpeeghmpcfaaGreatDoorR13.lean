/-
  Texts of one proof, packed.
-/
import Derived.Test.YthbbpeeghmpcfaaGreatDoorR12
import Derived.Below
import Derived.Deep.Slices
import Derived.IntWalk
import Derived.SizedLaws
set_option linter.all false
set_option maxRecDepth 100000
set_option maxHeartbeats 4000000
open List renaming length_map→X1,length_append→X2,length_cons→X3,length_nil→X10,mem_singleton→X11,getElem?_eq_getElem→X12,length_drop→X14,length_take→X15,length_replicate→X17,length_set→X18,mem_append→X20
open Option.some renaming injEq→X21,inj→X22
open Prod.mk renaming injEq→X23
open Bool renaming and_eq_true→X24
open Nat renaming le_of_ble_eq_true→X26,eq_of_beq_eq_true→X27,mul_le_mul_right→X28
open List renaming range→Xbu,range'→Xex
open Go renaming undef→Xck,Program→Xdn,FuncId→Xdy,maxLen→Xc7,reachBytes→Xb5
open Nat renaming beq→Xal,blt→Xcu,ble→Xeo
open Array renaming getD→Xek
open Go.IntKind renaming i64→Xda
open Go.Region renaming ready→Xew
section
namespace Go.AX
def Yw :∀(l:O z) (done:O z) (acc:O (O Nat)),acc.length=done.length-> (∀p (U:p<done.length),(Bz done[p]).all (λj=>Xcu j p)=true->∀k∈acc.getD (acc.length-1-p) [],k∈Bz done[p] \/∃q∈Bz done[p],k∈acc.getD (acc.length-1-q) [])-> (JD l acc).length=(done++l).length/\∀p (U:p<(done++l).length),(Bz (done++l)[p]).all (λj=>Xcu j p)=true->∀k∈(JD l acc).getD ((JD l acc).length-1-p) [],k∈Bz (done++l)[p] \/∃q∈Bz (done++l)[p],k∈(JD l acc).getD ((JD l acc).length-1-q) []
 | [],done,acc,hlen,h=>by simpa[JD,hlen] using h
 | o::l,done,acc,hlen,h=>by
  simp only[JD];have:=Yw l (done++[o]) (((Bz o).flatMap λj=>j::acc.getD (acc.length-1-j) [])::acc) (by simp[hlen]) ?_
  ·simpa using this
  intro p U V k F;simp only[X2,X3,X10,Xbc] at U;have Fw :∀q,q<acc.length->(((Bz o).flatMap λj=>j::acc.getD (acc.length-1-j) [])::acc).getD ((((Bz o).flatMap λj=>j::acc.getD (acc.length-1-j) [])::acc).length-1-q) []=acc.getD (acc.length-1-q) []:=by
   intro q M;have:(((Bz o).flatMap λj=>j::acc.getD (acc.length-1-j) [])::acc).length-1-q=(acc.length-1-q)+1:=by simp only[X3];omega
   rw[this,List.getD_cons_succ]
  rcases Xei p done.length with H|a6
  ·rw[Fw p (by omega)] at F;have J:(Bz done[p]).all (λj=>Xcu j p)=true:=by simpa[Xaq H] using V
   rw[Xaq H];rcases h p H J k F with Q|⟨q,Q,h2⟩
   ·exact .inl Q
   refine .inr ⟨q,Q,?_⟩;have:=Xa6.1 J q Q;have Y:q<p:=by simpa using this
   rw[Fw q (by omega)];exact h2
  have Z:p=done.length:=by omega
  subst Z;have K:(done++[o])[done.length]'(by simp)=o:=by simp
  rw[K] at V⊢;have:(((Bz o).flatMap λj=>j::acc.getD (acc.length-1-j) [])::acc).length-1-done.length=0:=by simp only[X3];omega
  rw[this,List.getD_cons_zero] at F;obtain⟨q,M,F⟩:=Xc9.1 F;rcases Xa7.1 F with rfl|F
  ·exact .inl M
  refine .inr ⟨q,M,?_⟩;have:=Xa6.1 V q M;have Y:q<done.length:=by simpa using this
  rw[Fw q (by omega)];exact F
def KE {F:Array z}{p:Nat}{o:z}(U:F[p]?=some o)(V:(Bz o).all (λj=>Xcu j p)=true){k:Nat}(K:k∈G2 F p) : k∈Bz o \/∃q∈Bz o,k∈G2 F q:=by obtain⟨M,Q⟩:=Yw F.toList [] [] rfl (λp H=>by simp at H);obtain⟨H,J⟩:=Xcm.1 U;simp only[Xah,Xba] at M Q;have:=Q p (by simpa using H);simp only[Array.getElem_toList,J,M] at this;unfold G2 at K⊢;exact this V k K
def WM {F:Array z}{f:Nat->O Nat×O Nat}{i:Nat}{K wr:O Nat} :∀(n j:Nat),Eu.Hp F i K wr j ((Xex j n).map f)=true-> ∀k,j<=k->k<j+n->i∈G2 F k\/((∀r∈wr,r∉(f k).1)/\∀r∈K,r∉(f k).2)
 | 0,j,_,k,h1,M=>by omega
 | n+1,j,h,k,h1,M=>by
  simp only[List.range'_succ,Xbk,Eu.Hp] at h;rw[show f j=((f j).1,(f j).2) from rfl] at h;simp only[X24,Xdp] at h;rcases Nat.eq_or_lt_of_le h1 with rfl|Q
  ·rcases h.1 with H|H
   ·exact .inl (by simpa using H)
   refine .inr ⟨λr J=>?_,λr J=>?_⟩
   ·have:=Xa6.1 H.1 r J;simpa using this
   have:=Xa6.1 H.2 r J;simpa using this
  exact WM n (j+1) h.2 k (by omega) (by omega)
def Lu {F:Array z}{f:Nat->O Nat×O Nat} :∀(n i:Nat),Eu F i ((Xex i n).map f)=true-> ∀j k,i<=j->j<k->k<i+n->j∈G2 F k\/((∀r∈(f j).2,r∉(f k).1)/\∀r∈(f j).1,r∉(f k).2)
 | 0,i,_,j,k,h1,H,J=>by omega
 | n+1,i,h,j,k,h1,H,J=>by
  simp only[List.range'_succ,Xbk] at h;rw[show f i=((f i).1,(f i).2) from rfl] at h;simp only[Eu,X24] at h;rcases Nat.eq_or_lt_of_le h1 with rfl|K
  ·exact WM n (i+1) h.1 k (by omega) (by omega)
  exact Lu n (i+1) h.2 j k (by omega) H (by omega)
def QE {cx:Cx}{F:Array z} :∀(os:O z) (i:Nat) (H:O (O Nat×O Nat)) {st:wD} {K:O (O Nat×O Nat)->wD->Prop}, (∀k (J:k<os.length),F[i+k]?=some os[k])->Uy cx F os H st K-> ∃(es:O (O Nat×O Nat)) (fin:wD),es.length=os.length/\K (H.reverse++es) fin/\∀f:Nat->O Nat×O Nat,(∀k (J:k<es.length),f (i+k)=es[k])->T2 cx F f fin (Xex i os.length) st
 | [],i,H,st,K,_,h=>⟨[],st,rfl,by simpa[Uy] using h,λf _=>rfl⟩
 | o::os,i,H,st,K,Q,h=>by
  have h:NV cx F o st λM=>Uy cx F os ((TN cx.np o st.tm,nE cx.np o st.tm M.tm)::H) M K:=by obtain⟨tm,ob⟩:=st;exact h
  obtain⟨v,w,h,V⟩:=sq h
  obtain⟨es,fin,Y,Z,h3⟩:=QE os (i+1) _ (λk J=>by
   have:=Q (k+1) (by simpa using J)
   rw[show i+1+k=i+(k+1) by omega,this];rfl) h
  refine⟨(TN cx.np o st.tm,nE cx.np o st.tm (Lf o.dst v w st).tm)::es,fin,by simp[Y],by simpa using Z,λf U=>?_⟩;simp only[X3,List.range'_succ];refine⟨o,v,w,Q 0 (by simp),?_,h3 f λk J=>?_⟩
  ·have:=U 0 (by simp);simp only[Xcy,Xbg] at this;rw[this];exact V
  have:=U (k+1) (by simpa using J);rw[show i+1+k=i+(k+1) by omega,this];rfl
def Dm {F:Array z}(h:FX F=true){i:Nat}{o:z}(K:F[i]?=some o) : (Bz o).all (λj=>Xcu j i)=true/\∀j,j<i->j∈G2 F i \/∀q,F[j]?=some q->q.apart F o=true:=by
 obtain⟨M,_⟩:=Xcm.1 K;have J:=Xa6.1 h i (Xe3.2 M);simp only[K,X24] at J;refine⟨J.1.1,λj Q=>?_⟩;have H:=Xa6.1 J.2 j (Xe3.2 Q);simp only[Xdp] at H;rcases H with H|H
 ·exact .inl (by simpa using H)
 refine .inr λq U=>?_;simpa[U] using H
def KI {H:Array z}(M:FX H=true){listed:Nat->Prop}(F :∀i o,H[i]?=some o->listed i->∀j∈Bz o,listed j) : ∀(n i:Nat),i<n->i<H.size->listed i->∀k∈G2 H i,listed k
 | 0,i,h,_,_=>by omega
 | n+1,i,h,V,Q=>by
  intro k Y;have J:H[i]?=some H[i]:=by simp[V]
  obtain⟨U,_⟩:=Dm M J;rcases KE J U Y with K|⟨q,K,Z⟩
  ·exact F i _ J Q k K
  have:=Xa6.1 U q K;have hq:q<i:=by simpa using this
  exact KI M F n q (by omega) (by omega) (F i _ J Q q K) k Z
def Jf {F:Array z}{listed:Array I}{i:Nat}(h:i∈Xew .any F listed) : i<F.size/\listed.getD i true=false/\∃o,F[i]?=some o/\∀j∈Bz o,listed.getD j false=true:=by
 unfold Xew at h;rw[Xb2,Xe3] at h;obtain⟨K,h⟩:=h;have M:F[i]?=some F[i]:=by simp[K]
 simp only[X24,M,Xcb,Xaz] at h;refine⟨K,by simpa using h.1,_,M,λj Q=>?_⟩;unfold Bz at Q;obtain⟨e,U,rfl⟩:=Xau.1 Q;obtain⟨H,J⟩:=Xb2.1 U;have:=Array.all_eq_true'.1 h.2 e (by simpa using H);simpa[J] using this
def mem_ready {F:Array z}{listed:Array I}{i:Nat}{o:z}(H:F[i]?=some o)(J:listed.getD i true=false)(K :∀j∈Bz o,listed.getD j false=true):i∈Xew .any F listed:=by
 obtain⟨M,_⟩:=Xcm.1 H;unfold Xew;rw[Xb2,Xe3];refine⟨M,?_⟩;simp only[X24,H,Xcb,Xaz];refine⟨by simp[J],Array.all_eq_true'.2 λe Q=>?_⟩;cases U:Region.binds .any e with
 | false=>rfl
 | true=>simp only[Xe4,Bool.false_or];exact K e.on (Xau.2 ⟨e,Xb2.2 ⟨by simpa using Q,U⟩,rfl⟩)
section
variable {P:Program} {E:Env} {tr:Trk}
def V5 {cx:Cx}(hT:xD P cx.T)(hC:Re E.wl P cx){F:Array z}{f:Nat->O Nat×O Nat}{fin:wD}{Q:Exit->Act->B->Prop} (hd:FX F=true) (hc :∀j k,j<k->k<F.size->j∈G2 F k\/((∀r∈(f j).2,r∉(f k).1)/\∀r∈(f j).1,r∉(f k).2)) (hQ :∀a w,RR E tr fin a w->Q .normal a w) :∀(xv:Nat) (L:O Nat) (listed:Array I) {st:wD} {a:Act} {w:B}, L.length=xv->listed.size=F.size->L.Pairwise (·<·)->(∀k,k∈L↔k<F.size/\listed.getD k true=false)->(∀i o,F[i]?=some o->listed.getD i false=true->∀j∈Bz o,listed.getD j false=true)-> T2 cx F f fin L st->RR E tr st a w->wpAny P .any F Q xv listed a w
 | 0,L,listed,st,a,w,hL,zx,hp,hm,H,J,hR=>by
  have:L=[]:=List.length_eq_zero_iff.1 hL;subst this;refine⟨?_,hQ _ _ (by rw[<- (show st=fin from J)];exact hR)⟩;cases hr:Xew .any F listed with
  | nil=>rfl
  | cons i l=>obtain⟨V,h2,_⟩:=Jf (i:=i) (by rw[hr];simp);exact absurd ((hm i).2 ⟨V,h2⟩) (by simp)
 | xv+1,L,listed,st,a,w,hL,zx,hp,hm,H,J,hR=>by
  have gd :∀k,k<F.size->listed.getD k true=listed.getD k false:=λk U=>by simp[Xek,zx,U]
  refine⟨λhr=>?_,λi hi=>?_⟩
  ·exfalso;cases L with
   | nil=>simp at hL
   | cons i l=>
    obtain⟨V,h2⟩:=(hm i).1 (by simp);have M:F[i]?=some F[i]:=by simp[V]
    have:i∈Xew .any F listed:=mem_ready M h2 λj Y=>by
     obtain⟨hb,_⟩:=Dm hd M;have:=Xa6.1 hb j Y;have Z:j<i:=by simpa using this
     cases hx:listed.getD j false with
     | true=>rfl
     | false=>
      have aj:=(hm j).2 ⟨by omega,by rw[gd j (by omega)];exact hx⟩;rcases Xa7.1 aj with e|e
      ·omega
      have:=(Xab.1 hp).1 j e;omega
    rw[hr] at this;simp at this
  obtain⟨V,h2,o,M,h3⟩:=Jf hi;have ak:=(hm i).2 ⟨V,h2⟩;obtain⟨pre,post,rfl⟩:=List.append_of_mem ak;obtain⟨al,ae,a6⟩:=Xbj.1 hp;have a7 :∀j∈pre,zq F f j i:=by
   intro j Y;have Z:j<i:=a6 j Y i (by simp);have af:¬ listed.getD j false=true:=by obtain⟨q1,q2⟩:=(hm j).1 (by simp[Y]);rw[gd j q1] at q2;rw[q2];simp
   have ag:j∉G2 F i:=by
    intro an;obtain⟨hb,_⟩:=Dm hd M;rcases KE M hb an with e|⟨q,e1,e2⟩
    ·exact af (h3 j e)
    have:=Xa6.1 hb q e1;have hq:q<i:=by simpa using this
    exact af (KI hd (listed:=λk=>listed.getD k false=true) H (q+1) q (by omega) (by omega) (h3 q e1) j e2)
   refine⟨λx y hx hy=>?_,?_⟩
   ·rw[M] at hy;cases hy;exact ((Dm hd M).2 j Z).resolve_left ag x hx
   exact (hc j i Z V).resolve_left ag
  obtain⟨o',v,wr,ah,hs,a8⟩:=dU pre a7 J;rw[M] at ah;cases ah;have aa:NV cx F o st λK=>T2 cx F f fin (pre++post) K:=hs.go st (λ_ _=>rfl) (λ_ _=>rfl) _ a8;have ab :∀K a' w',T2 cx F f fin (pre++post) K->RR E tr K a' w'->wpAny P .any F Q xv (listed.setIfInBounds i true) a' w':=by
   intro K a' w' ao ap;have gs :∀k b,(listed.setIfInBounds i true).getD k b=if k=i then true else listed.getD k b:=by
    intro k b;by_cases U:k=i
    ·subst U;simp[Xek,zx,V]
    have:¬ i=k:=λe=>U e.symm;simp only[U,Xd4,Xek,Array.size_setIfInBounds];split
    ·rename_i aq;exact Array.getElem_setIfInBounds_ne aq this
    rfl
   refine V5 hT hC hd hc hQ xv (pre++post) (listed.setIfInBounds i true) (by simp at hL⊢;omega) (by simpa using zx) ?_ (λk=>?_) ?_ ao ap
   ·exact Xbj.2 ⟨al,(Xab.1 ae).2,λx hx y hy=>a6 x hx y (by simp[hy])⟩
   ·rw[gs];have:=hm k;by_cases U:k=i
    ·subst U;simp only[Xet];constructor
     ·intro hh;rcases X20.1 hh with hh|hh
      ·exact absurd (a6 k hh k (by simp)) (by omega)
      exact absurd ((Xab.1 ae).1 k hh) (by omega)
     intro hh;simp at hh
    simp only[U,Xd4];rw[<- this];simp[U]
   intro j q hq hl p ai;rw[gs] at hl⊢;split
   ·rfl
   by_cases Y:j=i
   ·subst Y;rw[M] at hq;cases hq;exact h3 p ai
   simp only[Y,Xd4] at hl;exact H j q hq hl p ai
  unfold wpOp;simp only[M];have:=Ud (Q:=Q) hT hC aa hR (next:=wpAny P .any F Q xv (listed.setIfInBounds i true)) ab;split
  ·rename_i hw;rw[Xa2 hw] at this;exact .inl this
  rename_i hw;rw[Xa1 hw] at this;exact this
def TE {cx:Cx}(hT:xD P cx.T)(hC:Re E.wl P cx){F:Array z}{f:Nat->O Nat×O Nat}{fin:wD}{Q:Exit->Act->B->Prop}{t:Nat}(ht:t+1=F.size)(a6 :∀j,j<t->j∈G2 F t) (hd:FX F=true) (hc :∀j k,j<k->k<t->j∈G2 F k\/((∀r∈(f j).2,r∉(f k).1)/\∀r∈(f j).1,r∉(f k).2)) (hQ :∀a w,RR E tr fin a w->wpOp P F Q t (Q .normal) a w) :∀(xv:Nat) (L:O Nat) (listed:Array I) {st:wD} {a:Act} {w:B}, L.length=xv->listed.size=F.size->L.Pairwise (·<·)->listed.getD t true=false->(∀k,k∈L↔k<t/\listed.getD k true=false)->(∀i o,F[i]?=some o->listed.getD i false=true->∀j∈Bz o,listed.getD j false=true)-> T2 cx F f fin L st->RR E tr st a w->wpAny P .any F Q (xv+1) listed a w
 | 0,L,listed,st,a,w,hL,zx,hp,a7,hm,H,U,hR=>by
  have:L=[]:=List.length_eq_zero_iff.1 hL;subst this;have gd :∀k,k<F.size->listed.getD k true=listed.getD k false:=λk K=>by simp[Xek,zx,K]
  have V :∀k,k<t->listed.getD k true=true:=by
   intro k K;cases hx:listed.getD k true with
   | true=>rfl
   | false=>exact absurd ((hm k).2 ⟨K,hx⟩) (by simp)
  have ai:F[t]?=some (F[t]'(by omega)):=by simp[show t<F.size by omega]
  have aq :∀j∈Bz (F[t]'(by omega)),listed.getD j false=true:=by
   intro j hj;obtain⟨hb,_⟩:=Dm hd ai;have:=Xa6.1 hb j hj;have Y:j<t:=by simpa using this
   rw[<- gd j (by omega)];exact V j Y
  have aj:t∈Xew .any F listed:=mem_ready ai a7 aq;refine⟨λhr=>?_,λi hi=>?_⟩
  ·rw[hr] at aj;simp at aj
  obtain⟨h1,h2,_⟩:=Jf hi;have a8:i=t:=by refine Nat.le_antisymm (by omega) (Nat.le_of_not_lt λJ=>?_);rw[V i J] at h2;simp at h2
  subst a8;refine wpOp_mono (λa' w' hq=>⟨?_,hq⟩) (hQ a w (by rw[<- (show st=fin from U)];exact hR));cases hr:Xew .any F (listed.setIfInBounds i true) with
  | nil=>rfl
  | cons k l=>
   exfalso;obtain⟨h3,h4,_⟩:=Jf (i:=k) (by rw[hr];simp);by_cases K:k=i
   ·subst K;simp[Xek,zx,h1] at h4
   have h5:(listed.setIfInBounds i true).getD k true=listed.getD k true:=by
    have:¬ i=k:=λe=>K e.symm;simp only[Xek,Array.size_setIfInBounds];split
    ·rename_i J;exact Array.getElem_setIfInBounds_ne J this
    rfl
   rw[h5,V k (by omega)] at h4;simp at h4
 | xv+1,L,listed,st,a,w,hL,zx,hp,a7,hm,H,U,hR=>by
  have gd :∀k,k<F.size->listed.getD k true=listed.getD k false:=λk K=>by simp[Xek,zx,K]
  refine⟨λhr=>?_,λi hi=>?_⟩
  ·exfalso;cases L with
   | nil=>simp at hL
   | cons i l=>
    obtain⟨ba,h2⟩:=(hm i).1 (by simp);have h1:i<F.size:=by omega
    have M:F[i]?=some F[i]:=by simp[h1]
    have:i∈Xew .any F listed:=mem_ready M h2 λj hj=>by
     obtain⟨hb,_⟩:=Dm hd M;have:=Xa6.1 hb j hj;have Y:j<i:=by simpa using this
     cases hx:listed.getD j false with
     | true=>rfl
     | false=>
      have ar:=(hm j).2 ⟨by omega,by rw[gd j (by omega)];exact hx⟩;rcases Xa7.1 ar with e|e
      ·omega
      have:=(Xab.1 hp).1 j e;omega
    rw[hr] at this;simp at this
  obtain⟨h1,h2,o,M,h3⟩:=Jf hi;have a8:i≠t:=by
   intro e;subst e;cases L with
   | nil=>simp at hL
   | cons j l=>
    obtain⟨q1,q2⟩:=(hm j).1 (by simp);have aa:=a6 j q1;obtain⟨hb,_⟩:=Dm hd M;rw[gd j (by omega)] at q2;rcases KE M hb aa with e|⟨q,e1,e2⟩
    ·rw[h3 j e] at q2;simp at q2
    have:=Xa6.1 hb q e1;have hq:q<i:=by simpa using this
    have:=KI hd (listed:=λk=>listed.getD k false=true) H (q+1) q (by omega) (by omega) (h3 q e1) j e2;rw[this] at q2;simp at q2
  have J:i<t:=by omega
  have au:=(hm i).2 ⟨J,h2⟩;obtain⟨pre,post,rfl⟩:=List.append_of_mem au;obtain⟨ax,ak,ab⟩:=Xbj.1 hp;have ae :∀j∈pre,zq F f j i:=by
   intro j hj;have Y:j<i:=ab j hj i (by simp);have al:¬ listed.getD j false=true:=by obtain⟨q1,q2⟩:=(hm j).1 (by simp[hj]);rw[gd j (by omega)] at q2;rw[q2];simp
   have an:j∉G2 F i:=by
    intro aa;obtain⟨hb,_⟩:=Dm hd M;rcases KE M hb aa with e|⟨q,e1,e2⟩
    ·exact al (h3 j e)
    have:=Xa6.1 hb q e1;have hq:q<i:=by simpa using this
    exact al (KI hd (listed:=λk=>listed.getD k false=true) H (q+1) q (by omega) (by omega) (h3 q e1) j e2)
   refine⟨λx y hx hy=>?_,?_⟩
   ·rw[M] at hy;cases hy;exact ((Dm hd M).2 j Y).resolve_left an x hx
   exact (hc j i Y J).resolve_left an
  obtain⟨o',v,wr,ao,hs,af⟩:=dU pre ae U;rw[M] at ao;cases ao;have ag:NV cx F o st λZ=>T2 cx F f fin (pre++post) Z:=hs.go st (λ_ _=>rfl) (λ_ _=>rfl) _ af;have ah :∀Z a' w',T2 cx F f fin (pre++post) Z->RR E tr Z a' w'->wpAny P .any F Q (xv+1) (listed.setIfInBounds i true) a' w':=by
   intro Z a' w' ay az;have gs :∀k b,(listed.setIfInBounds i true).getD k b=if k=i then true else listed.getD k b:=by
    intro k b;by_cases K:k=i
    ·subst K;simp[Xek,zx,h1]
    have:¬ i=k:=λe=>K e.symm;simp only[K,Xd4,Xek,Array.size_setIfInBounds];split
    ·rename_i J;exact Array.getElem_setIfInBounds_ne J this
    rfl
   refine TE hT hC ht a6 hd hc hQ xv (pre++post) (listed.setIfInBounds i true) (by simp at hL⊢;omega) (by simpa using zx) ?_ (by rw[gs,Xa1 (Ne.symm a8)];exact a7) (λk=>?_) ?_ ay az
   ·exact Xbj.2 ⟨ax,(Xab.1 ak).2,λx hx y hy=>ab x hx y (by simp[hy])⟩
   ·rw[gs];have:=hm k;by_cases K:k=i
    ·subst K;simp only[Xet];constructor
     ·intro hh;rcases X20.1 hh with hh|hh
      ·exact absurd (ab k hh k (by simp)) (by omega)
      exact absurd ((Xab.1 ak).1 k hh) (by omega)
     intro hh;simp at hh
    simp only[K,Xd4];rw[<- this];simp[K]
   intro j q hq hl p ap;rw[gs] at hl⊢;split
   ·rfl
   by_cases hj:j=i
   ·subst hj;rw[M] at hq;cases hq;exact h3 p ap
   simp only[hj,Xd4] at hl;exact H j q hq hl p ap
  unfold wpOp;simp only[M];have:=Ud (Q:=Q) hT hC ag hR (next:=wpAny P .any F Q (xv+1) (listed.setIfInBounds i true)) ah;split
  ·rename_i hw;rw[Xa2 hw] at this;exact .inl this
  rename_i hw;rw[Xa1 hw] at this;exact this
def U2 {wl:WL}{cx:Cx}(hT:xD P cx.T)(hC:Re wl P cx)(hm:P.follows .mixedOrders=true) :∀(E:Env),E.wl=wl->∀(tr:Trk) (id:Nat) (F:Array z) (st:wD) (a:Act) (w:B) (K:wD->Prop) (Q:Exit->Act->B->Prop),tr.np=cx.np-> FX F=true->Uy cx F F.toList [] st (λa6 U=>Eu F 0 a6=true/\K U)->RR E tr st a w->(∀U a' w',K U->RR E tr U a' w'->Q .normal a' w')->(Code.region id F true).wp P Q a w:=by
 intro E a7 tr id F st a w K Q ae hd h hR hQ;subst a7;obtain⟨Z,fin,V,⟨M,hK⟩,H⟩:=QE F.toList 0 [] (λk hk=>by simp at hk;simp[hk]) h;have H:=H (λk=>Z.getD k default) λk hk=>by simp[hk]
 simp only[Xba] at V H;have a8:Z=(Xex 0 F.size).map λk=>Z.getD k default:=by
  apply List.ext_getElem
  ·simp[V]
  intro k h1 h2;simp[h1]
 rw[List.reverse_nil,Xah,a8] at M;have Y:=Lu F.size 0 M;refine wp_region_any hm ?_;obtain⟨S,φ,J,aa⟩:=hR;obtain⟨md,kd⟩:=J.mem.drew;have ab:RR E tr st a w.drew:=⟨S,φ,⟨J.sz,λi hi=>⟨kd.Ke (J.tm i hi).2 (J.tm i hi).1,(J.tm i hi).2⟩,J.df,md⟩,aa⟩;refine V5 hT hC hd (f:=λk=>Z.getD k default) (λj k h1 h2=>Y j k (by omega) h1 (by omega)) (λa w hR=>hQ fin a w hK hR) F.size (Xex 0 F.size) _ (by simp) (by simp) List.pairwise_lt_range' (λk=>?_) ?_ H ab
 ·simp[Xek]
 intro i o ho hl;simp[Xek] at hl
def V0 :∀(l:O z),(LR l).length=l.length-1/\∀k (F:k<(LR l).length),∃H:k<l.length,(LR l)[k]=l[k]
 | []=>⟨rfl,λk F=>by simp[LR] at F⟩
 | [_]=>⟨rfl,λk F=>by simp[LR] at F⟩
 | o::p::l=>by
  obtain⟨K,J⟩:=V0 (p::l);refine⟨by simp only[LR,X3] at *;omega,λk F=>?_⟩;cases k with
  | zero=>exact⟨by simp,rfl⟩
  | succ k=>obtain⟨q1,q2⟩:=J k (by simpa[LR] using F);exact⟨by simpa using q1,by simpa[LR] using q2⟩
def V9 {cx:Cx}{F:Array z}{st:wD}{K:wD->Prop} :∀{l:O z},ov cx F st K l->∃o,l[l.length-1]?=some o/\fA cx F o st K
 | [],h=>h.elim
 | [o],h=>⟨o,rfl,h⟩
 | _::p::l,h=>by obtain⟨o,H,J⟩:=V9 (l:=p::l) h;exact⟨o,by simpa using H,J⟩
def Ou {wl:WL}{cx:Cx}(hT:xD P cx.T)(hC:Re wl P cx)(hm:P.follows .mixedOrders=true):Xq wl P cx:=by
 intro E Z tr id F st a w K Q a6 h hR hQ;rcases h with ⟨hd,h⟩|⟨⟨hd,ht⟩,h⟩
 ·exact U2 hT hC hm E Z tr id F st a w K Q a6 hd h hR hQ
 subst Z;simp only[P3,X24,Xa6,Xe3] at ht;obtain⟨a8,a7⟩:=ht;have af:0<F.size:=X26 a8;obtain⟨il,ig⟩:=V0 F.toList;simp only[Xba] at il
 obtain⟨es,fin,U,⟨M,hK⟩,H⟩:=QE (LR F.toList) 0 [] (λk hk=>by
  obtain⟨q1,q2⟩:=ig k hk;rw[q2];simp only[Xba] at q1
  simp[q1]) h
 have H:=H (λk=>es.getD k default) λk hk=>by simp[hk]
 rw[il] at U H;have aa:es=(Xex 0 (F.size-1)).map λk=>es.getD k default:=by
  apply List.ext_getElem
  ·simp[U]
  intro k h1 h2;simp[h1]
 rw[List.reverse_nil,Xah,aa] at M;have V:=Lu (F.size-1) 0 M;obtain⟨o,ho,Y⟩:=V9 hK;simp only[Xba] at ho;have ho:F[F.size-1]?=some o:=by simpa using ho
 refine wp_region_any hm ?_;obtain⟨S,φ,J,ab⟩:=hR;obtain⟨md,kd⟩:=J.mem.drew;have ae:RR E tr st a w.drew:=⟨S,φ,⟨J.sz,λi hi=>⟨kd.Ke (J.tm i hi).2 (J.tm i hi).1,(J.tm i hi).2⟩,J.df,md⟩,ab⟩;have key:=TE (t:=F.size-1) (Q:=Q) (fin:=fin) hT hC (by omega) (λj hj=>by simpa using a7 j hj) hd (f:=λk=>es.getD k default) (λj k h1 h2=>V j k (by omega) h1 (by omega)) (λa w hR=>?_) (F.size-1) (Xex 0 (F.size-1)) (Array.replicate F.size false) (by simp) (by simp) List.pairwise_lt_range' (by simp[Xek,show F.size-1<F.size by omega]) (λk=>?_) (λi o ho hl=>?_) H ae
 ·rw[show F.size-1+1=F.size by omega] at key;exact key
 ·unfold wpOp;simp only[ho];have:=Qn (Q:=Q) hT hC a6 Y hR (next:=Q .normal) hQ;split
  ·rename_i hw;rw[Xa2 hw] at this;exact .inl this
  rename_i hw;rw[Xa1 hw] at this;exact this
 ·rw[List.mem_range'_1];constructor
  ·rintro⟨_,hi⟩;exact⟨by omega,by simp[Xek,show k<F.size by omega]⟩
  rintro⟨hi,_⟩;exact⟨by omega,by omega⟩
 simp[Xek] at hl
end
end Go.AX
end
section
namespace Go.AX
def ma:D->A->I
 | .val (.int k n),.int F H=>decide (k=F)&&decide (n=H)
 | .val (.bool b),.bool J=>b==J
 | .val (.string s),.string K=>Xal s.data.toList.length 0&&Xal K.data.toList.length 0
 | .val (.pointer none),.pointer none=>true
 | .val .nilFunc,.nilFunc=>true
 | .val .nilIface,.nilIface=>true
 | .val (.map none),.map none=>true
 | .nil _,.slice none 0 0=>true
 | _,_=>false
def om {d:D}{v:A}(h:ma d v=true):JZ d v:=by
 unfold ma at h;split at h
 ·simp only[X24,Xy] at h;obtain⟨rfl,rfl⟩:=h;exact⟨rfl,rfl⟩
 ·have h:=eq_of_beq h;subst h;exact⟨rfl,rfl⟩
 ·rename_i s F;simp only[X24,BS,List.length_eq_zero_iff] at h;have e:s=F:=by cases s;cases F;congr;apply Array.toList_inj.1;rw[h.1,h.2]
  subst e;exact⟨rfl,rfl⟩
 all_goals first|exact⟨rfl,rfl⟩|rfl|simp at h
def Qf:O D->O A->I
 | [],[]=>true
 | d::F,v::vs=>ma d v&&Qf F vs
 | _,_=>false
def V1 :∀{F:O D} {vs:O A},Qf F vs=true->F.length=vs.length/\∀j (H:j<F.length) v,vs[j]?=some v->JZ F[j] v
 | [],[],_=>⟨rfl,λj H=>by simp at H⟩
 | d::F,v::vs,h=>by
  simp only[Qf,X24] at h;obtain⟨K,M⟩:=V1 h.2;refine⟨by simp[K],λj H u J=>?_⟩;cases j with
  | zero=>simp only[List.getElem?_cons_zero,X21] at J;subst J;exact om h.1
  | succ j=>exact M j (by simpa using H) u (by simpa using J)
 | [],_::_,h=>by simp[Qf] at h
 | _::_,[],h=>by simp[Qf] at h
def H0 (P:Xdn):O Field->O (Nat×Nat×Nat)->I
 | [],[]=>true
 | f::fs,(o,s,t)::l=>Xal f.offset o&&Xal f.type t&&(match P.info? f.type with
  | some i=>Xal i.size s
  | none => false) && !(f.name == "_") && H0 P fs l
 | _,_=>false
def Ss {P:Xdn} :∀{F:O Field} {l:O (Nat×Nat×Nat)},H0 P F l=true-> F.map (fun f => (f.offset, (P.info? f.type).map (·.size), f.type)) = l.map (fun x => (x.1, some x.2.1, x.2.2)) ∧ ∀ f ∈ F, f.name ≠ "_"
 | [],[],_=>⟨rfl,λf J=>by simp at J⟩
 | f::fs,(o,s,t)::l,h=>by
  simp only[H0,X24,BS] at h;obtain⟨⟨⟨⟨K,M⟩,H⟩,Q⟩,U⟩:=h;obtain⟨V,Y⟩:=Ss U;refine⟨?_,λg hg=>?_⟩
  ·simp only[Xbk,V,Xdo,X23,Xf6];refine⟨K,?_,M⟩;split at H
   ·rename_i i Z;rw[Z];simpa using H
   simp at H
  rcases Xa7.1 hg with rfl|hg
  ·simpa using Q
  exact Y g hg
 | [],_::_,h=>by simp[H0] at h
 | _::_,[],h=>by simp[H0] at h
def pO (P:Xdn)(t:Nat)(k:TK):I:=match k,P.underlying t with
 | .bool,some .bool=>true
 | .int k,some (.int J)=>decide (J=k)
 | .str,some .string=>true
 | .ptr,some (.pointer _)=>true
 | .fn,some (.func _ _ _)=>true
 | .slice e,some (.slice H)=>Xal H e
 | .arr n e,some (.array K H)=>Xal K n&&Xal H e
 | .map k e,some (.map J H)=>Xal J k&&Xal H e
 | .struct fs,some (.struct F)=>!P.stoodInHeld t&&!P.eqGuardType P.depth t&&H0 P F.toList fs
 | .other,_=>true
 | _,_=>false
def mX {P:Xdn}{t:Nat}{k:TK}(h:pO P t k=true):zM P t k:=by
 unfold pO at h;split at h<;>simp only[zM]
 ·assumption
 ·rename_i hu;rw[hu,of_decide_eq_true h]
 ·assumption
 ·exact⟨_,by assumption⟩
 ·exact⟨_,_,_,by assumption⟩
 ·rename_i hu;rw[hu,X27 h]
 ·rename_i hu;simp only[X24,BS] at h;rw[hu,h.1,h.2]
 ·rename_i hu;simp only[X24,BS] at h;rw[hu,h.1,h.2]
 ·rename_i fs F hu;simp only[X24,Xbd] at h;exact⟨h.1.1,h.1.2,F,hu,Ss h.2⟩
 simp at h
def uq (k:TK)(z:A):I:=match z,k.Cy with
 | .agg _,some false=>false
 | .agg _,_=>true
 | _,some true=>false
 | _,_=>true
def tiB (P:Xdn)(t:Nat)(F:TI):I:=match P.info? t with
 | some i=>(match i.zero with
  | some z=>Xal i.size F.size&&Xal i.bytes F.bytes&&Xal F.zero.length F.size&&Qf F.zero z.cells.toList&&pO P t F.kind&&uq F.kind z
  | none=>false)
 | none=>false
def uE {P:Xdn}{t:Nat}{K:TI}(h:tiB P t K=true):Lw P t K:=by
 unfold tiB at h;split at h
 ·rename_i i M;split at h
  ·rename_i z Q;simp only[X24,BS] at h;obtain⟨⟨⟨⟨⟨Y,Z⟩,U⟩,h4⟩,h5⟩,V⟩:=h;obtain⟨g1,g2⟩:=V1 h4
   exact⟨⟨i,z,M,Y,Z,Q,by rw[<- Xba,<- g1,U],U,λj hj v hv=>g2 j hj v (by simpa using hv)⟩,mX h5,λi' z' F H=>by
    rw[M] at F;obtain rfl:=X22 F;rw[Q] at H;obtain rfl:=X22 H;refine⟨λJ=>?_,λJ cs e=>?_⟩
    ·cases z<;>first|exact⟨_,rfl⟩|(simp[uq,J] at V)
    subst e;simp[uq,J] at V⟩
  simp at h
 simp at h
def sN (P:Xdn):TT->I
 | .zS=>true
 | .node k v l r=>(v.kind.Cy.isNone || tiB P k v)&&sN P l&&sN P r
def Wy {P:Xdn} :∀{T:TT},sN P T=true->xD P T
 | .zS,_=>λt=>.inl rfl
 | .node k v l r,h=>λt=>by
  simp only[sN,X24,Xdp] at h;simp only[TT.get];cases F:Xal t k with
  | true=>
   have:=X27 F;subst this;simp only;rcases h.1.1 with h|h
   ·exact .inl (by simpa using h)
   exact .inr (uE h)
  | false=>
   simp only;cases Xcu t k with
   | true=>exact Wy h.1.2 t
   | false=>exact Wy h.2 t
abbrev Rs (wl:WL)(P:Xdn)(T:TT)(zV:Xdy->O I)(inl:Xdy->I)(ex np:Nat):Cx:=⟨T,np,xV wl P,zV,wl.G,inl,Z6 wl P,ex⟩
def tU {wl:WL}{P:Xdn}{T:TT}(J:xD P T)(K:P.follows .mixedOrders=true)(zV:Xdy->O I)(inl:Xdy->I)(ex:Nat){f:Xdy}{fn:Func}{args:O AV}{gM:O OB}{H:AV}{F:O OB} (M : P.funcs[f]? = some fn) (Q : (fn.name == "runtime.NumGoroutine") = false) (h : bD (Rs wl P T zV inl ex gM.length) fn args gM fun r o => r = H ∧ o = F) : xV wl P f args gM H F :=
 cQ (cx:=Rs wl P T zV inl ex gM.length) J ⟨rfl,λ_ _ _ _ _ h=>h,λ_ _ _ _ h=>h⟩ (Ou J ⟨rfl,λ_ _ _ _ _ h=>h,λ_ _ _ _ h=>h⟩ K) M (by simpa using Q) h
def t7 {wl:WL}{P:Xdn}{T:TT}(F:xD P T)(H:P.follows .mixedOrders=true)(zV:Xdy->O I)(inl:Xdy->I)(np:Nat){f:Xdy}{fn:Func}{args:O AV}{ob:O (C OB)}{K:AV->O (C OB)->Prop} (J : P.funcs[f]? = some fn) (M : (fn.name == "runtime.NumGoroutine") = false) (h : qZ (Rs wl P T zV inl 0 np) fn args ob K) : Z6 wl P f args ob K :=
 .inl <| d5 (cx:=Rs wl P T zV inl 0 np) F ⟨rfl,λ_ _ _ _ _ h=>h,λ_ _ _ _ h=>h⟩ (Ou F ⟨rfl,λ_ _ _ _ _ h=>h,λ_ _ _ _ h=>h⟩ H) J (by simpa using M) h
def CA (x:Int):Prop:=-9223372036854775808<=x/\x<=9223372036854775807
def QW {a b:Int}(F:a=b)(H:CA b):Xda.wrap a=b:=by subst F;exact IntWalk.i64_in a H
def bnd {n b:Nat}(F:Xeo b 65536=true)(H:n<=1000000000):n*b<=2^47/\n<=2^47:=by have F:=X26 F;have:=Nat.mul_le_mul H F;omega
end Go.AX
end
section
namespace Go.AX
open Go.RowKit
def Sk (w:B):Sc:=λb o=>∃v,cellAt w b o=some v
def sl {P:Xdn}{f:Xdy}{args:O AV}{K:AV}{wl:WL}(h:xV wl P f args [] K [])(w:B){gb:Nat->Prop}(hg:wl.gf gb w/\∀b,gb b->b<w.heap.size)(F:Array A)(V:F.size=args.length) (H :∀i (hi:i<args.length),kI (Sk w) w (λ_=>none) (zo []) args[i] (F.getD i Xck)/\oA (zo []) args[i]) : Calls P f F w λe w'=>(∃v S φ,e=.returned v/\kI S w' φ (zo []) K v)/\Below w.heap.size w w':=by
 have Q :∀r,zo [] r=none:=λr=>by simp[zo]
 refine (h.2 w (Sk w) (λ_=>none) gb ⟨hg.1,hg.2,(by rintro b hb ⟨r,c,Y,_⟩;simp at Y),λb o _ Z=>by
  cases J:cellAt w b o with
  | none=>exact absurd J Z
  | some v=>exact⟨v,J⟩⟩ F V H (λ_ _=>rfl) ⟨λr o M=>by rw[Q] at M;simp at M,λr _ _ _ _ H=>absurd (Q r) H,λr o M=>by rw[Q] at M;simp at M,λ_ _ h=>h,λ_ _ _=>rfl,λb o hS=>?_,λ_ _ h _ _=>h,λ_ _ _=>rfl,Xak _,λr _ _ H=>absurd (Q r) H,⟨rfl,rfl,rfl,.inr (Xak _)⟩⟩).mono λe w' he=>?_
 ·obtain⟨v,J⟩:=hS;refine Xbs λU=>?_;simp[cellAt,World.cell?,U] at J
 obtain⟨v,rfl,S',φ',m,_,J,_⟩:=he;refine⟨⟨v,S',φ',rfl,J⟩,m.os.1,m.os.2.2.1,m.os.2.1,m.sz,λk hk=>m.fr k hk ?_⟩;rintro⟨r,c,H,_⟩;exact absurd H (by simp)
def jJ {P:Xdn}{f:Xdy}{args:O AV}{wl:WL}(h:xV wl P f args [] (.b true) [])(w:B){gb:Nat->Prop}(hg:wl.gf gb w/\∀b,gb b->b<w.heap.size)(F:Array A)(H:F.size=args.length) (J :∀i (Q:i<args.length),kI (Sk w) w (λ_=>none) (zo []) args[i] (F.getD i Xck)/\oA (zo []) args[i]) : Calls P f F w λe w'=>e=.returned (.bool true)/\Below w.heap.size w w':=
 (sl h w hg F H J).mono λe w' ⟨⟨v,S,φ,he,K⟩,M⟩=>⟨by rw[he,K.bool],M⟩
end Go.AX
end
section
namespace Go.AX
open Go.RowKit Go.Deep Go.ChangeShapes Go.WideShapes
section
variable {H:Type} {enc:TypeId×A->H} {P:Program} {w:B}
def FL (w:B)(F:O D)(J:O A):Prop:=
 F.length=J.length/\(∀d∈F,d.isAgg=false)/\∀j (K:j<F.length) v,J[j]?=some v->zf (Sk w) w F[j] v
def Wt (P:Xdn)(t:Nat)(d:DataW H):Prop:=(d.weights P t).all (·<=Xb5)=true
def GD {e:Nat} :∀{l:O (DataW H)} {d:DataW H},d∈l->∀n∈d.weights P e,n∈DataW.weightsAll P e l
 | x::l,d,F,n,J=>by
  simp only[DataW.weightsAll,X20];rcases Xa7.1 F with rfl|F
  ·exact .inl J
  exact .inr (GD F n J)
def Wt.slice {t e:Nat}{el F:O (DataW H)}(J:P.underlying t=some (.slice e))(h:Wt P t (.slice el F)):(el.length+F.length)*P.bytesOf e<=Xb5/\∀d∈el,Wt P e d:=by have h:=Xa6.1 h;simp only[DataW.weights,J,Xa7,X20] at h;refine⟨by simpa using h _ (.inl rfl),λd K=>Xa6.2 λn M=>h n (.inr (.inl (GD K n M)))⟩
def Wt.string {t:Nat}{b:O S}(h:Wt (H:=H) P t (.lit (.string b))):b.length<=Xb5:=by have h:=Xa6.1 h;simp only[DataW.weights] at h;simpa using h _ (X11.2 rfl)
def Wt.agg {t:Nat}{F:Array Field}{J:O (DataW H)}(K:P.underlying t=some (.struct F))(h:Wt P t (.agg J)){i:Nat}{f:Field}{d:DataW H}(M:F[i]?=some f)(Q:J[i]?=some d):Wt P f.type d:=by have h:=Xa6.1 h;simp only[DataW.weights,K] at h;exact Xa6.2 λn U=>h n (DataW.weights_mem_each (ts:=F.toList.map (·.type)) (j:=i) (by simp[M]) Q n U)
structure Th (H:Type)(P:Program) where
 W:Nat->DataW H->Prop
 S:Nat->Nat->Prop
 bnd:Nat
 slice :∀{t e:Nat} {el sp:List (DataW H)},P.underlying t=some (.slice e)->W t (.slice el sp)->S e el.length/\∀d∈el,W e d
 string :∀{t:Nat} {b:List UInt8},W t (.lit (.string b))->b.length<=bnd
 agg :∀{t:Nat} {F:Array Field} {ds:List (DataW H)},P.underlying t=some (.struct F)->W t (.agg ds)->∀{i:Nat} {f:Field} {d:DataW H},F[i]?=some f->ds[i]?=some d->W f.type d
def Th.reach (H:Type)(P:Xdn):Th H P where
 W:=Wt P
 S e n:=n*P.bytesOf e<=Xb5
 bnd:=Xb5
 slice ht h:=⟨Xay (X28 _ (by simp)) (Wt.slice ht h).1,(Wt.slice ht h).2⟩
 string h:=Wt.string h
 agg ht h _ _ _ hf hd:=Wt.agg ht h hf hd
def Ex (L:Th H P)(enc:TypeId×A->H)(w:B)(t:Nat){α:Type}(cells:α->O D)(ok:α->Prop):Prop:=
 ∀xv F x,DataW.trod enc P w 0 (λ_=>true) true xv t F=some x->L.W t x.1->∃a,ok a/\FL w (cells a) F
abbrev Reads (enc:TypeId×A->H)(P:Xdn)(w:B)(t:Nat){α:Type}(cells:α->O D)(ok:α->Prop):Prop:=Ex (Th.reach H P) enc w t cells ok
variable {L:Th H P}
def FL.one {d:D}{v:A}(K:d.isAgg=false)(h:zf (Sk w) w d v):FL w [d] [v]:=
 ⟨rfl,λx F=>by simp only[X11] at F;rw[F];exact K,λj M u J=>by
  have:j=0:=by simpa using M
  subst this;simp only[List.getElem?_cons_zero,X21] at J;subst J
  exact h⟩
def kc {t:Nat}{k:IntKind}(F:P.underlying t=some (.int k)):Ex L enc w t (λn:Int=>[.val (.int k n)]) (λn=>(Lit.int k n).wf=true):=by intro xv K x h _;obtain⟨n,rfl,_,J⟩:=DataW.trod_int F h;exact⟨n,J,FL.one rfl (.val _ rfl)⟩
def Wv {t e sz:Nat}{α:Type}{el:α->D}{ok:α->Prop}{sok:Nat->Prop}(ht:P.underlying t=some (.slice e))(zx:P.cellsOf e=sz)(a6:0<sz)(a7:sok 0)(a8 :∀n,L.S e n->sok n)(h:Ex L enc w e (λa=>(el a).cells) ok) : Ex L enc w t (λl:O α=>[.Cg sz (l.map el)]) (λl=>l.length<=Xc7/\sok l.length/\∀a∈l,ok a):=by
 intro xv cs x hx hw;rcases open_slice ht hx with ⟨rfl,_⟩|⟨a,len,ag,m,n,D,Pl,rfl,_,aa,hm,Y,rfl,ab⟩
 ·exact⟨[],⟨by simp,a7,by simp⟩,FL.one rfl (.zZ _ _ _)⟩
 obtain⟨Z,ah⟩:=L.slice ht hw;have Z:sok len:=a8 _ (by simpa using Z);have Y:m=ag:=Y.trans (Xa2 rfl);subst Y;rw[zx] at ab;have one :∀i,i<len->∃q:α×O A,ok q.1/\FL w (el q.1).cells q.2/\w.cells? 0 (a.add (i*sz)) sz=some q.2:=by intro i F;obtain⟨ae,h1,Q⟩:=ab i (by omega);obtain⟨b,h3,h4⟩:=h n ae _ Q (ah _ (Xau.2 ⟨i,Xe3.2 F,rfl⟩));exact⟨(b,ae),h3,h4,h1⟩
 by_cases h0:len=0
 ·subst h0;exact⟨[],⟨by simp,a7,by simp⟩,FL.one rfl (.zZ _ _ _)⟩
 obtain⟨q0,_⟩:=one 0 (by omega);haveI:Inhabited (α×O A):=⟨q0⟩;obtain⟨f,hf⟩:=choose_lt one;have J:a.spot=none:=by
  obtain⟨_,_,h3⟩:=hf 0 (by omega);obtain⟨_,hl,hc⟩:=World.cells?_some h3;have:=hc 0 a6;rw[Nat.zero_mul] at this;have e:(a.add 0).add 0=a:=by simp[Addr.add]
  rw[e] at this;have U:0<(f 0).2.length:=by omega
  rw[X12 U] at this;unfold World.cell? at this;split at this
  ·cases hs:a.spot with
   | none=>rfl
   | some s=>simp[hs] at this
  simp at this
 obtain⟨b,o,sp⟩:=a;simp only at J;subst J;have af :∀i j,((⟨b,o,none⟩:Addr).add i).add j=⟨b,o+i+j,none⟩:=by intro i j;rw[Addr.C8,Addr.C8]
 have K :∀i j,i<len->j<sz->∃v,(f i).2[j]?=some v/\cellAt w b (o+i*sz+j)=some v:=by
  intro i j F V;obtain⟨_,_,h3⟩:=hf i F;obtain⟨_,hl,hc⟩:=World.cells?_some h3;have:=hc j V;rw[af] at this;have U:j<(f i).2.length:=by omega
  exact⟨(f i).2[j],X12 U,by rw[X12 U] at this;exact this⟩
 have M :∀i,i<len->(el (f i).1).cells.length=sz:=by intro i F;obtain⟨_,Q,h3⟩:=hf i F;obtain⟨_,hl,_⟩:=World.cells?_some h3;rw[Q.1,hl]
 refine⟨(Xbu len).map λi=>(f i).1,⟨by simp;omega,by simpa using Z,λa ha=>?_⟩,FL.one rfl ?_⟩
 ·obtain⟨i,F,rfl⟩:=Xau.1 ha;exact (hf i (Xe3.1 F)).1
 have hL:(((Xbu len).map λi=>(f i).1).map el).length=len:=by simp
 have:=zf.Cg (S:=Sk w) (w:=w) sz (((Xbu len).map λi=>(f i).1).map el) b o m (λi j=>((f i).2[j]?).getD Xck) (by rw[hL];exact Xay aa hm) (by rw[hL];exact aa) (λi F=>?_) (λi j F V=>?_) (λi F j V=>?_) (λi F j V=>?_)
 ·rw[hL] at this;exact this
 ·rw[hL] at F;simpa using M i F
 ·rw[hL] at F;obtain⟨v,h1,Q⟩:=K i j F V;exact⟨⟨v,Q⟩,by rw[Q,h1];rfl⟩
 ·rw[hL] at F;obtain⟨_,Q,_⟩:=hf i F;exact Q.2.1 _ (by simp)
 rw[hL] at F;obtain⟨_,Q,_⟩:=hf i F;simp only[Xb6,Xed] at V⊢;have ai:j<sz:=by rw[M i F] at V;exact V
 obtain⟨v,h1,_⟩:=K i j F ai;rw[h1];exact Q.2.2 j V v h1
def Mu {t e sz by':Nat}{α:Type}{el:α->D}{ok:α->Prop}(K:P.underlying t=some (.slice e))(zx:P.cellsOf e=sz)(F:0<sz)(J:P.bytesOf e=by')(h:Reads enc P w e (λa=>(el a).cells) ok) : Reads enc P w t (λl:O α=>[.Cg sz (l.map el)]) (λl=>l.length<=Xc7/\l.length*by'<=Xb5/\∀a∈l,ok a):=
 Wv (sok:=λn=>n*by'<=Xb5) K zx F (by simp) (λ_ h=>J▸h) h
def FL.val {d:D}{v:A}(h:FL w [d] [v]):zf (Sk w) w d v:=h.2.2 0 (by simp) v (by simp)
end
end Go.AX
end
