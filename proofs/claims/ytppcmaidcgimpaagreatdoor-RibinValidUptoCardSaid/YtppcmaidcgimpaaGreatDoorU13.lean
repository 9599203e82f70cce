/-
  Texts of one proof, packed.
-/
import Derived.Test.YtppcmaidcgimpaaGreatDoorU12
import Derived.Below
import Derived.Deep.Slices
import Derived.IntWalk
import Derived.SizedLaws
set_option linter.all false
set_option maxRecDepth 100000
set_option maxHeartbeats 4000000
open List renaming length_map→X10,length_append→X11,length_cons→X12,length_nil→X13,mem_singleton→X14,getElem?_eq_getElem→X15,length_drop→X17,length_take→X18,length_replicate→X20,length_set→X21,mem_append→X23
open Option.some renaming injEq→X24,inj→X25
open Prod.mk renaming injEq→X26
open Bool renaming and_eq_true→X27
open Nat renaming le_of_ble_eq_true→X29,eq_of_beq_eq_true→X30
open List renaming range→Xbv
open Go renaming maxLen→Xb3,reachBytes→Xbw,undef→Xck,Program→Xcv,FuncId→Xdm
open Nat renaming beq→Xab,blt→Xcf,ble→Xee
open Array renaming getD→Xe2
open Go.Region renaming ready→Xeh
open Go.IntKind renaming i64→Xdt
section
namespace Go.AX
def ZY :∀(l:I z) (done:I z) (acc:I (I Nat)),acc.length=done.length-> (∀p (hp:p<done.length),(CZ done[p]).all (λj=>Xcf j p)=true->∀k∈acc.getD (acc.length-1-p) [],k∈CZ done[p] \/∃q∈CZ done[p],k∈acc.getD (acc.length-1-q) [])-> (KF l acc).length=(done++l).length/\∀p (hp:p<(done++l).length),(CZ (done++l)[p]).all (λj=>Xcf j p)=true->∀k∈(KF l acc).getD ((KF l acc).length-1-p) [],k∈CZ (done++l)[p] \/∃q∈CZ (done++l)[p],k∈(KF l acc).getD ((KF l acc).length-1-q) []
 | [],done,acc,hlen,h=>by simpa[KF,hlen] using h
 | o::l,done,acc,hlen,h=>by
  simp only[KF];have:=ZY l (done++[o]) (((CZ o).flatMap λj=>j::acc.getD (acc.length-1-j) [])::acc) (by simp[hlen]) ?_
  ·simpa using this
  intro p hp V k F;simp only[X11,X12,X13,Xbk] at hp;have H :∀q,q<acc.length->(((CZ o).flatMap λj=>j::acc.getD (acc.length-1-j) [])::acc).getD ((((CZ o).flatMap λj=>j::acc.getD (acc.length-1-j) [])::acc).length-1-q) []=acc.getD (acc.length-1-q) []:=by
   intro q Q;have:(((CZ o).flatMap λj=>j::acc.getD (acc.length-1-j) [])::acc).length-1-q=(acc.length-1-q)+1:=by simp only[X12];omega
   rw[this,List.getD_cons_succ]
  rcases Nat.lt_or_ge p done.length with J|a1
  ·rw[H p (by omega)] at F;have K:(CZ done[p]).all (λj=>Xcf j p)=true:=by simpa[Xax J] using V
   rw[Xax J];rcases h p J K k F with U|⟨q,U,h2⟩
   ·exact .inl U
   refine .inr ⟨q,U,?_⟩;have:=Xa0.1 K q U;have Y:q<p:=by simpa using this
   rw[H q (by omega)];exact h2
  have Z:p=done.length:=by omega
  subst Z;have M:(done++[o])[done.length]'(by simp)=o:=by simp
  rw[M] at V⊢;have:(((CZ o).flatMap λj=>j::acc.getD (acc.length-1-j) [])::acc).length-1-done.length=0:=by simp only[X12];omega
  rw[this,List.getD_cons_zero] at F;obtain⟨q,Q,F⟩:=Xdw.1 F;rcases Xa3.1 F with rfl|F
  ·exact .inl Q
  refine .inr ⟨q,Q,?_⟩;have:=Xa0.1 V q Q;have Y:q<done.length:=by simpa using this
  rw[H q (by omega)];exact F
def MJ {F:Array z}{p:Nat}{o:z}(Q:F[p]?=some o)(U:(CZ o).all (λj=>Xcf j p)=true){k:Nat}(J:k∈Hz F p) : k∈CZ o \/∃q∈CZ o,k∈Hz F q:=by obtain⟨K,M⟩:=ZY F.toList [] [] rfl (λp hp=>by simp at hp);obtain⟨hp,H⟩:=Array.getElem?_eq_some_iff.1 Q;simp only[Xay,Xan] at K M;have:=M p (by simpa using hp);simp only[Array.getElem_toList,H,K] at this;unfold Hz at J⊢;exact this U k J
def XS {F:Array z}{f:Nat->I Nat×I Nat}{i:Nat}{K wr:I Nat} :∀(n j:Nat),Fh.xR F i K wr j ((List.range' j n).map f)=true-> ∀k,j<=k->k<j+n->i∈Hz F k\/((∀r∈wr,r∉(f k).1)/\∀r∈K,r∉(f k).2)
 | 0,j,_,k,h1,M=>by omega
 | n+1,j,h,k,h1,M=>by
  simp only[List.range'_succ,Xbu,Fh.xR] at h;rw[show f j=((f j).1,(f j).2) from rfl] at h;simp only[X27,Xcx] at h;rcases Nat.eq_or_lt_of_le h1 with rfl|Q
  ·rcases h.1 with H|H
   ·exact .inl (by simpa using H)
   refine .inr ⟨λr J=>?_,λr J=>?_⟩
   ·have:=Xa0.1 H.1 r J;simpa using this
   have:=Xa0.1 H.2 r J;simpa using this
  exact XS n (j+1) h.2 k (by omega) (by omega)
def N2 {F:Array z}{f:Nat->I Nat×I Nat} :∀(n i:Nat),Fh F i ((List.range' i n).map f)=true-> ∀j k,i<=j->j<k->k<i+n->j∈Hz F k\/((∀r∈(f j).2,r∉(f k).1)/\∀r∈(f j).1,r∉(f k).2)
 | 0,i,_,j,k,h1,H,J=>by omega
 | n+1,i,h,j,k,h1,H,J=>by
  simp only[List.range'_succ,Xbu] at h;rw[show f i=((f i).1,(f i).2) from rfl] at h;simp only[Fh,X27] at h;rcases Nat.eq_or_lt_of_le h1 with rfl|K
  ·exact XS n (i+1) h.1 k (by omega) (by omega)
  exact N2 n (i+1) h.2 j k (by omega) H (by omega)
def R2 {cx:Cx}{F:Array z} :∀(os:I z) (i:Nat) (H:I (I Nat×I Nat)) {st:sI} {K:I (I Nat×I Nat)->sI->Prop}, (∀k (J:k<os.length),F[i+k]?=some os[k])->V7 cx F os H st K-> ∃(es:I (I Nat×I Nat)) (fin:sI),es.length=os.length/\K (H.reverse++es) fin/\∀f:Nat->I Nat×I Nat,(∀k (J:k<es.length),f (i+k)=es[k])->BT cx F f fin (List.range' i os.length) st
 | [],i,H,st,K,_,h=>⟨[],st,rfl,by simpa[V7] using h,λf _=>rfl⟩
 | o::os,i,H,st,K,Q,h=>by
  have h:O3 cx F o st λM=>V7 cx F os ((Ut cx.np o st.tm,lP cx.np o st.tm M.tm)::H) M K:=by obtain⟨tm,ob⟩:=st;exact h
  obtain⟨v,w,h,V⟩:=pj h
  obtain⟨es,fin,Y,Z,h3⟩:=R2 os (i+1) _ (λk J=>by
   have:=Q (k+1) (by simpa using J)
   rw[show i+1+k=i+(k+1) by omega,this];rfl) h
  refine⟨(Ut cx.np o st.tm,lP cx.np o st.tm (yn o.dst v w st).tm)::es,fin,by simp[Y],by simpa using Z,λf U=>?_⟩;simp only[X12,List.range'_succ];refine⟨o,v,w,Q 0 (by simp),?_,h3 f λk J=>?_⟩
  ·have:=U 0 (by simp);simp only[Xd4,Xaz] at this;rw[this];exact V
  have:=U (k+1) (by simpa using J);rw[show i+1+k=i+(k+1) by omega,this];rfl
def EL {F:Array z}(h:Gj F=true){i:Nat}{o:z}(K:F[i]?=some o) : (CZ o).all (λj=>Xcf j i)=true/\∀j,j<i->j∈Hz F i \/∀q,F[j]?=some q->q.apart F o=true:=by
 obtain⟨M,_⟩:=Array.getElem?_eq_some_iff.1 K;have J:=Xa0.1 h i (Xdn.2 M);simp only[K,X27] at J;refine⟨J.1.1,λj Q=>?_⟩;have H:=Xa0.1 J.2 j (Xdn.2 Q);simp only[Xcx] at H;rcases H with H|H
 ·exact .inl (by simpa using H)
 refine .inr λq U=>?_;simpa[U] using H
def MN {H:Array z}(M:Gj H=true){listed:Nat->Prop}(F :∀i o,H[i]?=some o->listed i->∀j∈CZ o,listed j) : ∀(n i:Nat),i<n->i<H.size->listed i->∀k∈Hz H i,listed k
 | 0,i,h,_,_=>by omega
 | n+1,i,h,V,Q=>by
  intro k Y;have J:H[i]?=some H[i]:=by simp[V]
  obtain⟨U,_⟩:=EL M J;rcases MJ J U Y with K|⟨q,K,Z⟩
  ·exact F i _ J Q k K
  have:=Xa0.1 U q K;have hq:q<i:=by simpa using this
  exact MN M F n q (by omega) (by omega) (F i _ J Q q K) k Z
def LA {F:Array z}{listed:Array C}{i:Nat}(h:i∈Xeh .any F listed) : i<F.size/\listed.getD i true=false/\∃o,F[i]?=some o/\∀j∈CZ o,listed.getD j false=true:=by
 unfold Xeh at h;rw[Xbl,Xdn] at h;obtain⟨K,h⟩:=h;have M:F[i]?=some F[i]:=by simp[K]
 simp only[X27,M,Xbf,Xb7] at h;refine⟨K,by simpa using h.1,_,M,λj Q=>?_⟩;unfold CZ at Q;obtain⟨e,U,rfl⟩:=Xaf.1 Q;obtain⟨H,J⟩:=Xbl.1 U;have:=Array.all_eq_true'.1 h.2 e (by simpa using H);simpa[J] using this
def mem_ready {F:Array z}{listed:Array C}{i:Nat}{o:z}(H:F[i]?=some o)(J:listed.getD i true=false)(hp :∀j∈CZ o,listed.getD j false=true):i∈Xeh .any F listed:=by
 obtain⟨K,_⟩:=Array.getElem?_eq_some_iff.1 H;unfold Xeh;rw[Xbl,Xdn];refine⟨K,?_⟩;simp only[X27,H,Xbf,Xb7];refine⟨by simp[J],Array.all_eq_true'.2 λe M=>?_⟩;cases Q:Region.binds .any e with
 | false=>rfl
 | true=>simp only[Bool.not_true,Bool.false_or];exact hp e.on (Xaf.2 ⟨e,Xbl.2 ⟨by simpa using M,Q⟩,rfl⟩)
section
variable {P:Program} {E:Env} {tr:Trk}
def XE {cx:Cx}(hT:ur P cx.T)(hC:TV E.wl P cx){F:Array z}{f:Nat->I Nat×I Nat}{fin:sI}{Q:Exit->Act->B->Prop} (hd:Gj F=true) (hc :∀j k,j<k->k<F.size->j∈Hz F k\/((∀r∈(f j).2,r∉(f k).1)/\∀r∈(f j).1,r∉(f k).2)) (hQ :∀a w,RR E tr fin a w->Q .normal a w) :∀(tE:Nat) (L:I Nat) (listed:Array C) {st:sI} {a:Act} {w:B}, L.length=tE->listed.size=F.size->L.Pairwise (·<·)->(∀k,k∈L↔k<F.size/\listed.getD k true=false)->(∀i o,F[i]?=some o->listed.getD i false=true->∀j∈CZ o,listed.getD j false=true)-> BT cx F f fin L st->RR E tr st a w->wpAny P .any F Q tE listed a w
 | 0,L,listed,st,a,w,hL,w8,hp,hm,H,J,hR=>by
  have:L=[]:=Xcm.1 hL;subst this;refine⟨?_,hQ _ _ (by rw[<- (show st=fin from J)];exact hR)⟩;cases hr:Xeh .any F listed with
  | nil=>rfl
  | cons i l=>obtain⟨V,h2,_⟩:=LA (i:=i) (by rw[hr];simp);exact absurd ((hm i).2 ⟨V,h2⟩) (by simp)
 | tE+1,L,listed,st,a,w,hL,w8,hp,hm,H,J,hR=>by
  have gd :∀k,k<F.size->listed.getD k true=listed.getD k false:=λk U=>by simp[Xe2,w8,U]
  refine⟨λhr=>?_,λi hi=>?_⟩
  ·exfalso;cases L with
   | nil=>simp at hL
   | cons i l=>
    obtain⟨V,h2⟩:=(hm i).1 (by simp);have M:F[i]?=some F[i]:=by simp[V]
    have:i∈Xeh .any F listed:=mem_ready M h2 λj Y=>by
     obtain⟨hb,_⟩:=EL hd M;have:=Xa0.1 hb j Y;have Z:j<i:=by simpa using this
     cases hx:listed.getD j false with
     | true=>rfl
     | false=>
      have ai:=(hm j).2 ⟨by omega,by rw[gd j (by omega)];exact hx⟩;rcases Xa3.1 ai with e|e
      ·omega
      have:=(Xb4.1 hp).1 j e;omega
    rw[hr] at this;simp at this
  obtain⟨V,h2,o,M,h3⟩:=LA hi;have aj:=(hm i).2 ⟨V,h2⟩;obtain⟨pre,post,rfl⟩:=List.append_of_mem aj;obtain⟨ak,ab,a1⟩:=Xbm.1 hp;have a6 :∀j∈pre,wm F f j i:=by
   intro j Y;have Z:j<i:=a1 j Y i (by simp);have ae:¬ listed.getD j false=true:=by obtain⟨q1,q2⟩:=(hm j).1 (by simp[Y]);rw[gd j q1] at q2;rw[q2];simp
   have af:j∉Hz F i:=by
    intro al;obtain⟨hb,_⟩:=EL hd M;rcases MJ M hb al with e|⟨q,e1,e2⟩
    ·exact ae (h3 j e)
    have:=Xa0.1 hb q e1;have hq:q<i:=by simpa using this
    exact ae (MN hd (listed:=λk=>listed.getD k false=true) H (q+1) q (by omega) (by omega) (h3 q e1) j e2)
   refine⟨λx y hx hy=>?_,?_⟩
   ·rw[M] at hy;cases hy;exact ((EL hd M).2 j Z).resolve_left af x hx
   exact (hc j i Z V).resolve_left af
  obtain⟨o',v,wr,ag,hs,a7⟩:=dQ pre a6 J;rw[M] at ag;cases ag;have a8:O3 cx F o st λK=>BT cx F f fin (pre++post) K:=hs.go st (λ_ _=>rfl) (λ_ _=>rfl) _ a7;have aa :∀K a' w',BT cx F f fin (pre++post) K->RR E tr K a' w'->wpAny P .any F Q tE (listed.setIfInBounds i true) a' w':=by
   intro K a' w' an ao;have gs :∀k b,(listed.setIfInBounds i true).getD k b=if k=i then true else listed.getD k b:=by
    intro k b;by_cases U:k=i
    ·subst U;simp[Xe2,w8,V]
    have:¬ i=k:=λe=>U e.symm;simp only[U,Xe7,Xe2,Array.size_setIfInBounds];split
    ·rename_i ap;exact Array.getElem_setIfInBounds_ne ap this
    rfl
   refine XE hT hC hd hc hQ tE (pre++post) (listed.setIfInBounds i true) (by simp at hL⊢;omega) (by simpa using w8) ?_ (λk=>?_) ?_ an ao
   ·exact Xbm.2 ⟨ak,(Xb4.1 ab).2,λx hx y hy=>a1 x hx y (by simp[hy])⟩
   ·rw[gs];have:=hm k;by_cases U:k=i
    ·subst U;simp only[Xeq];constructor
     ·intro hh;rcases X23.1 hh with hh|hh
      ·exact absurd (a1 k hh k (by simp)) (by omega)
      exact absurd ((Xb4.1 ab).1 k hh) (by omega)
     intro hh;simp at hh
    simp only[U,Xe7];rw[<- this];simp[U]
   intro j q hq hl p ah;rw[gs] at hl⊢;split
   ·rfl
   by_cases Y:j=i
   ·subst Y;rw[M] at hq;cases hq;exact h3 p ah
   simp only[Y,Xe7] at hl;exact H j q hq hl p ah
  unfold wpOp;simp only[M];have:=Vr (Q:=Q) hT hC a8 hR (next:=wpAny P .any F Q tE (listed.setIfInBounds i true)) aa;split
  ·rename_i hw;rw[Wr hw] at this;exact .inl this
  rename_i hw;rw[Wm hw] at this;exact this
def Ul {cx:Cx}(hT:ur P cx.T)(hC:TV E.wl P cx){F:Array z}{f:Nat->I Nat×I Nat}{fin:sI}{Q:Exit->Act->B->Prop}{t:Nat}(ht:t+1=F.size)(a1 :∀j,j<t->j∈Hz F t) (hd:Gj F=true) (hc :∀j k,j<k->k<t->j∈Hz F k\/((∀r∈(f j).2,r∉(f k).1)/\∀r∈(f j).1,r∉(f k).2)) (hQ :∀a w,RR E tr fin a w->wpOp P F Q t (Q .normal) a w) :∀(tE:Nat) (L:I Nat) (listed:Array C) {st:sI} {a:Act} {w:B}, L.length=tE->listed.size=F.size->L.Pairwise (·<·)->listed.getD t true=false->(∀k,k∈L↔k<t/\listed.getD k true=false)->(∀i o,F[i]?=some o->listed.getD i false=true->∀j∈CZ o,listed.getD j false=true)-> BT cx F f fin L st->RR E tr st a w->wpAny P .any F Q (tE+1) listed a w
 | 0,L,listed,st,a,w,hL,w8,hp,a6,hm,H,U,hR=>by
  have:L=[]:=Xcm.1 hL;subst this;have gd :∀k,k<F.size->listed.getD k true=listed.getD k false:=λk K=>by simp[Xe2,w8,K]
  have V :∀k,k<t->listed.getD k true=true:=by
   intro k K;cases hx:listed.getD k true with
   | true=>rfl
   | false=>exact absurd ((hm k).2 ⟨K,hx⟩) (by simp)
  have ah:F[t]?=some (F[t]'(by omega)):=by simp[show t<F.size by omega]
  have ap :∀j∈CZ (F[t]'(by omega)),listed.getD j false=true:=by
   intro j hj;obtain⟨hb,_⟩:=EL hd ah;have:=Xa0.1 hb j hj;have Y:j<t:=by simpa using this
   rw[<- gd j (by omega)];exact V j Y
  have ai:t∈Xeh .any F listed:=mem_ready ah a6 ap;refine⟨λhr=>?_,λi hi=>?_⟩
  ·rw[hr] at ai;simp at ai
  obtain⟨h1,h2,_⟩:=LA hi;have a7:i=t:=by refine Nat.le_antisymm (by omega) (Nat.le_of_not_lt λJ=>?_);rw[V i J] at h2;simp at h2
  subst a7;refine wpOp_mono (λa' w' hq=>⟨?_,hq⟩) (hQ a w (by rw[<- (show st=fin from U)];exact hR));cases hr:Xeh .any F (listed.setIfInBounds i true) with
  | nil=>rfl
  | cons k l=>
   exfalso;obtain⟨h3,h4,_⟩:=LA (i:=k) (by rw[hr];simp);by_cases K:k=i
   ·subst K;simp[Xe2,w8,h1] at h4
   have h5:(listed.setIfInBounds i true).getD k true=listed.getD k true:=by
    have:¬ i=k:=λe=>K e.symm;simp only[Xe2,Array.size_setIfInBounds];split
    ·rename_i J;exact Array.getElem_setIfInBounds_ne J this
    rfl
   rw[h5,V k (by omega)] at h4;simp at h4
 | tE+1,L,listed,st,a,w,hL,w8,hp,a6,hm,H,U,hR=>by
  have gd :∀k,k<F.size->listed.getD k true=listed.getD k false:=λk K=>by simp[Xe2,w8,K]
  refine⟨λhr=>?_,λi hi=>?_⟩
  ·exfalso;cases L with
   | nil=>simp at hL
   | cons i l=>
    obtain⟨az,h2⟩:=(hm i).1 (by simp);have h1:i<F.size:=by omega
    have M:F[i]?=some F[i]:=by simp[h1]
    have:i∈Xeh .any F listed:=mem_ready M h2 λj hj=>by
     obtain⟨hb,_⟩:=EL hd M;have:=Xa0.1 hb j hj;have Y:j<i:=by simpa using this
     cases hx:listed.getD j false with
     | true=>rfl
     | false=>
      have aq:=(hm j).2 ⟨by omega,by rw[gd j (by omega)];exact hx⟩;rcases Xa3.1 aq with e|e
      ·omega
      have:=(Xb4.1 hp).1 j e;omega
    rw[hr] at this;simp at this
  obtain⟨h1,h2,o,M,h3⟩:=LA hi;have a7:i≠t:=by
   intro e;subst e;cases L with
   | nil=>simp at hL
   | cons j l=>
    obtain⟨q1,q2⟩:=(hm j).1 (by simp);have a8:=a1 j q1;obtain⟨hb,_⟩:=EL hd M;rw[gd j (by omega)] at q2;rcases MJ M hb a8 with e|⟨q,e1,e2⟩
    ·rw[h3 j e] at q2;simp at q2
    have:=Xa0.1 hb q e1;have hq:q<i:=by simpa using this
    have:=MN hd (listed:=λk=>listed.getD k false=true) H (q+1) q (by omega) (by omega) (h3 q e1) j e2;rw[this] at q2;simp at q2
  have J:i<t:=by omega
  have ar:=(hm i).2 ⟨J,h2⟩;obtain⟨pre,post,rfl⟩:=List.append_of_mem ar;obtain⟨au,aj,aa⟩:=Xbm.1 hp;have ab :∀j∈pre,wm F f j i:=by
   intro j hj;have Y:j<i:=aa j hj i (by simp);have ak:¬ listed.getD j false=true:=by obtain⟨q1,q2⟩:=(hm j).1 (by simp[hj]);rw[gd j (by omega)] at q2;rw[q2];simp
   have al:j∉Hz F i:=by
    intro a8;obtain⟨hb,_⟩:=EL hd M;rcases MJ M hb a8 with e|⟨q,e1,e2⟩
    ·exact ak (h3 j e)
    have:=Xa0.1 hb q e1;have hq:q<i:=by simpa using this
    exact ak (MN hd (listed:=λk=>listed.getD k false=true) H (q+1) q (by omega) (by omega) (h3 q e1) j e2)
   refine⟨λx y hx hy=>?_,?_⟩
   ·rw[M] at hy;cases hy;exact ((EL hd M).2 j Y).resolve_left al x hx
   exact (hc j i Y J).resolve_left al
  obtain⟨o',v,wr,an,hs,ae⟩:=dQ pre ab U;rw[M] at an;cases an;have af:O3 cx F o st λZ=>BT cx F f fin (pre++post) Z:=hs.go st (λ_ _=>rfl) (λ_ _=>rfl) _ ae;have ag :∀Z a' w',BT cx F f fin (pre++post) Z->RR E tr Z a' w'->wpAny P .any F Q (tE+1) (listed.setIfInBounds i true) a' w':=by
   intro Z a' w' ax ay;have gs :∀k b,(listed.setIfInBounds i true).getD k b=if k=i then true else listed.getD k b:=by
    intro k b;by_cases K:k=i
    ·subst K;simp[Xe2,w8,h1]
    have:¬ i=k:=λe=>K e.symm;simp only[K,Xe7,Xe2,Array.size_setIfInBounds];split
    ·rename_i J;exact Array.getElem_setIfInBounds_ne J this
    rfl
   refine Ul hT hC ht a1 hd hc hQ tE (pre++post) (listed.setIfInBounds i true) (by simp at hL⊢;omega) (by simpa using w8) ?_ (by rw[gs,Wm (Ne.symm a7)];exact a6) (λk=>?_) ?_ ax ay
   ·exact Xbm.2 ⟨au,(Xb4.1 aj).2,λx hx y hy=>aa x hx y (by simp[hy])⟩
   ·rw[gs];have:=hm k;by_cases K:k=i
    ·subst K;simp only[Xeq];constructor
     ·intro hh;rcases X23.1 hh with hh|hh
      ·exact absurd (aa k hh k (by simp)) (by omega)
      exact absurd ((Xb4.1 aj).1 k hh) (by omega)
     intro hh;simp at hh
    simp only[K,Xe7];rw[<- this];simp[K]
   intro j q hq hl p ao;rw[gs] at hl⊢;split
   ·rfl
   by_cases hj:j=i
   ·subst hj;rw[M] at hq;cases hq;exact h3 p ao
   simp only[hj,Xe7] at hl;exact H j q hq hl p ao
  unfold wpOp;simp only[M];have:=Vr (Q:=Q) hT hC af hR (next:=wpAny P .any F Q (tE+1) (listed.setIfInBounds i true)) ag;split
  ·rename_i hw;rw[Wr hw] at this;exact .inl this
  rename_i hw;rw[Wm hw] at this;exact this
def WB {wl:WL}{cx:Cx}(hT:ur P cx.T)(hC:TV wl P cx)(hm:P.follows .mixedOrders=true) :∀(E:Env),E.wl=wl->∀(tr:Trk) (id:Nat) (F:Array z) (st:sI) (a:Act) (w:B) (K:sI->Prop) (Q:Exit->Act->B->Prop),tr.np=cx.np-> Gj F=true->V7 cx F F.toList [] st (λa1 U=>Fh F 0 a1=true/\K U)->RR E tr st a w->(∀U a' w',K U->RR E tr U a' w'->Q .normal a' w')->(Code.region id F true).wp P Q a w:=by
 intro E a6 tr id F st a w K Q ab hd h hR hQ;subst a6;obtain⟨Z,fin,V,⟨M,hK⟩,H⟩:=R2 F.toList 0 [] (λk hk=>by simp at hk;simp[hk]) h;have H:=H (λk=>Z.getD k default) λk hk=>by simp[hk]
 simp only[Xan] at V H;have a7:Z=(List.range' 0 F.size).map λk=>Z.getD k default:=by
  apply List.ext_getElem
  ·simp[V]
  intro k h1 h2;simp[h1]
 rw[List.reverse_nil,Xay,a7] at M;have Y:=N2 F.size 0 M;refine wp_region_any hm ?_;obtain⟨S,φ,J,a8⟩:=hR;obtain⟨md,kd⟩:=J.mem.drew;have aa:RR E tr st a w.drew:=⟨S,φ,⟨J.sz,λi hi=>⟨kd.ym (J.tm i hi).2 (J.tm i hi).1,(J.tm i hi).2⟩,J.df,md⟩,a8⟩;refine XE hT hC hd (f:=λk=>Z.getD k default) (λj k h1 h2=>Y j k (by omega) h1 (by omega)) (λa w hR=>hQ fin a w hK hR) F.size (List.range' 0 F.size) _ (by simp) (by simp) List.pairwise_lt_range' (λk=>?_) ?_ H aa
 ·simp[Xe2]
 intro i o ho hl;simp[Xe2] at hl
def XA :∀(l:I z),(NY l).length=l.length-1/\∀k (F:k<(NY l).length),∃H:k<l.length,(NY l)[k]=l[k]
 | []=>⟨rfl,λk F=>by simp[NY] at F⟩
 | [_]=>⟨rfl,λk F=>by simp[NY] at F⟩
 | o::p::l=>by
  obtain⟨K,J⟩:=XA (p::l);refine⟨by simp only[NY,X12] at *;omega,λk F=>?_⟩;cases k with
  | zero=>exact⟨by simp,rfl⟩
  | succ k=>obtain⟨q1,q2⟩:=J k (by simpa[NY] using F);exact⟨by simpa using q1,by simpa[NY] using q2⟩
def XF {cx:Cx}{F:Array z}{st:sI}{K:sI->Prop} :∀{l:I z},mZ cx F st K l->∃o,l[l.length-1]?=some o/\eF cx F o st K
 | [],h=>h.elim
 | [o],h=>⟨o,rfl,h⟩
 | _::p::l,h=>by obtain⟨o,H,J⟩:=XF (l:=p::l) h;exact⟨o,by simpa using H,J⟩
def Qc {wl:WL}{cx:Cx}(hT:ur P cx.T)(hC:TV wl P cx)(hm:P.follows .mixedOrders=true):YZ wl P cx:=by
 intro E Z tr id F st a w K Q a1 h hR hQ;rcases h with ⟨hd,h⟩|⟨⟨hd,ht⟩,h⟩
 ·exact WB hT hC hm E Z tr id F st a w K Q a1 hd h hR hQ
 subst Z;simp only[Ro,X27,Xa0,Xdn] at ht;obtain⟨a7,a6⟩:=ht;have ae:0<F.size:=X29 a7;obtain⟨il,ig⟩:=XA F.toList;simp only[Xan] at il
 obtain⟨es,fin,U,⟨M,hK⟩,H⟩:=R2 (NY F.toList) 0 [] (λk hk=>by
  obtain⟨q1,q2⟩:=ig k hk;rw[q2];simp only[Xan] at q1
  simp[q1]) h
 have H:=H (λk=>es.getD k default) λk hk=>by simp[hk]
 rw[il] at U H;have a8:es=(List.range' 0 (F.size-1)).map λk=>es.getD k default:=by
  apply List.ext_getElem
  ·simp[U]
  intro k h1 h2;simp[h1]
 rw[List.reverse_nil,Xay,a8] at M;have V:=N2 (F.size-1) 0 M;obtain⟨o,ho,Y⟩:=XF hK;simp only[Xan] at ho;have ho:F[F.size-1]?=some o:=by simpa using ho
 refine wp_region_any hm ?_;obtain⟨S,φ,J,aa⟩:=hR;obtain⟨md,kd⟩:=J.mem.drew;have ab:RR E tr st a w.drew:=⟨S,φ,⟨J.sz,λi hi=>⟨kd.ym (J.tm i hi).2 (J.tm i hi).1,(J.tm i hi).2⟩,J.df,md⟩,aa⟩;have key:=Ul (t:=F.size-1) (Q:=Q) (fin:=fin) hT hC (by omega) (λj hj=>by simpa using a6 j hj) hd (f:=λk=>es.getD k default) (λj k h1 h2=>V j k (by omega) h1 (by omega)) (λa w hR=>?_) (F.size-1) (List.range' 0 (F.size-1)) (Array.replicate F.size false) (by simp) (by simp) List.pairwise_lt_range' (by simp[Xe2,show F.size-1<F.size by omega]) (λk=>?_) (λi o ho hl=>?_) H ab
 ·rw[show F.size-1+1=F.size by omega] at key;exact key
 ·unfold wpOp;simp only[ho];have:=S5 (Q:=Q) hT hC a1 Y hR (next:=Q .normal) hQ;split
  ·rename_i hw;rw[Wr hw] at this;exact .inl this
  rename_i hw;rw[Wm hw] at this;exact this
 ·rw[List.mem_range'_1];constructor
  ·rintro⟨_,hi⟩;exact⟨by omega,by simp[Xe2,show k<F.size by omega]⟩
  rintro⟨hi,_⟩;exact⟨by omega,by omega⟩
 simp[Xe2] at hl
end
end Go.AX
end
section
namespace Go.AX
def ku:D->A->C
 | .val (.int k n),.int F H=>decide (k=F)&&decide (n=H)
 | .val (.bool b),.bool J=>b==J
 | .val (.string s),.string K=>Xab s.data.toList.length 0&&Xab K.data.toList.length 0
 | .val (.pointer none),.pointer none=>true
 | .val .nilFunc,.nilFunc=>true
 | .val .nilIface,.nilIface=>true
 | .val (.map none),.map none=>true
 | .nil _,.slice none 0 0=>true
 | _,_=>false
def mT {d:D}{v:A}(h:ku d v=true):Ks d v:=by
 unfold ku at h;split at h
 ·simp only[X27,Wd] at h;obtain⟨rfl,rfl⟩:=h;exact⟨rfl,rfl⟩
 ·have h:=eq_of_beq h;subst h;exact⟨rfl,rfl⟩
 ·rename_i s F;simp only[X27,CL,Xcm] at h;have e:s=F:=by cases s;cases F;congr;apply Array.toList_inj.1;rw[h.1,h.2]
  subst e;exact⟨rfl,rfl⟩
 all_goals first|exact⟨rfl,rfl⟩|rfl|simp at h
def Sr:I D->I A->C
 | [],[]=>true
 | d::F,v::H=>ku d v&&Sr F H
 | _,_=>false
def XC :∀{F:I D} {H:I A},Sr F H=true->F.length=H.length/\∀j (J:j<F.length) v,H[j]?=some v->Ks F[j] v
 | [],[],_=>⟨rfl,λj J=>by simp at J⟩
 | d::F,v::H,h=>by
  simp only[Sr,X27] at h;obtain⟨M,P⟩:=XC h.2;refine⟨by simp[M],λj J u K=>?_⟩;cases j with
  | zero=>simp only[List.getElem?_cons_zero,X24] at K;subst K;exact mT h.1
  | succ j=>exact P j (by simpa using J) u (by simpa using K)
 | [],_::_,h=>by simp[Sr] at h
 | _::_,[],h=>by simp[Sr] at h
def xG (P:Xcv):I Field->I (Nat×Nat×Nat)->C
 | [],[]=>true
 | f::fs,(o,s,t)::l=>Xab f.offset o&&Xab f.type t&&(match P.info? f.type with
  | some i=>Xab i.size s
  | none => false) && !(f.name == "_") && xG P fs l
 | _,_=>false
def Ub {P:Xcv} :∀{F:I Field} {l:I (Nat×Nat×Nat)},xG P F l=true-> F.map (fun f => (f.offset, (P.info? f.type).map (·.size), f.type)) = l.map (fun x => (x.1, some x.2.1, x.2.2)) ∧ ∀ f ∈ F, f.name ≠ "_"
 | [],[],_=>⟨rfl,λf J=>by simp at J⟩
 | f::fs,(o,s,t)::l,h=>by
  simp only[xG,X27,CL] at h;obtain⟨⟨⟨⟨K,M⟩,H⟩,Q⟩,U⟩:=h;obtain⟨V,Y⟩:=Ub U;refine⟨?_,λg hg=>?_⟩
  ·simp only[Xbu,V,Xe3,X26,and_true];refine⟨K,?_,M⟩;split at H
   ·rename_i i Z;rw[Z];simpa using H
   simp at H
  rcases Xa3.1 hg with rfl|hg
  ·simpa using Q
  exact Y g hg
 | [],_::_,h=>by simp[xG] at h
 | _::_,[],h=>by simp[xG] at h
def m3 (P:Xcv)(t:Nat)(k:TK):C:=match k,P.underlying t with
 | .bool,some .bool=>true
 | .int k,some (.int J)=>decide (J=k)
 | .str,some .string=>true
 | .ptr,some (.pointer _)=>true
 | .fn,some (.func _ _ _)=>true
 | .slice e,some (.slice H)=>Xab H e
 | .arr n e,some (.array K H)=>Xab K n&&Xab H e
 | .map k e,some (.map J H)=>Xab J k&&Xab H e
 | .struct fs,some (.struct F)=>!P.stoodInHeld t&&!P.eqGuardType P.depth t&&xG P F.toList fs
 | .other,_=>true
 | _,_=>false
def kq {P:Xcv}{t:Nat}{k:TK}(h:m3 P t k=true):wb P t k:=by
 unfold m3 at h;split at h<;>simp only[wb]
 ·assumption
 ·rename_i hu;rw[hu,Xen h]
 ·assumption
 ·exact⟨_,by assumption⟩
 ·exact⟨_,_,_,by assumption⟩
 ·rename_i hu;rw[hu,X30 h]
 ·rename_i hu;simp only[X27,CL] at h;rw[hu,h.1,h.2]
 ·rename_i hu;simp only[X27,CL] at h;rw[hu,h.1,h.2]
 ·rename_i fs F hu;simp only[X27,Xbj] at h;exact⟨h.1.1,h.1.2,F,hu,Ub h.2⟩
 simp at h
def rE (k:TK)(z:A):C:=match z,k.wL with
 | .agg _,some false=>false
 | .agg _,_=>true
 | _,some true=>false
 | _,_=>true
def Km (P:Xcv)(t:Nat)(F:TI):C:=match P.info? t with
 | some i=>(match i.zero with
  | some z=>Xab i.size F.size&&Xab i.bytes F.bytes&&Xab F.zero.length F.size&&Sr F.zero z.cells.toList&&m3 P t F.kind&&rE F.kind z
  | none=>false)
 | none=>false
def qT {P:Xcv}{t:Nat}{K:TI}(h:Km P t K=true):yq P t K:=by
 unfold Km at h;split at h
 ·rename_i i M;split at h
  ·rename_i z Q;simp only[X27,CL] at h;obtain⟨⟨⟨⟨⟨Y,Z⟩,U⟩,h4⟩,h5⟩,V⟩:=h;obtain⟨g1,g2⟩:=XC h4
   exact⟨⟨i,z,M,Y,Z,Q,by rw[<- Xan,<- g1,U],U,λj hj v hv=>g2 j hj v (by simpa using hv)⟩,kq h5,λi' z' F H=>by
    rw[M] at F;obtain rfl:=X25 F;rw[Q] at H;obtain rfl:=X25 H;refine⟨λJ=>?_,λJ cs e=>?_⟩
    ·cases z<;>first|exact⟨_,rfl⟩|(simp[rE,J] at V)
    subst e;simp[rE,J] at V⟩
  simp at h
 simp at h
def pR (P:Xcv):TT->C
 | .wi=>true
 | .node k v l r=>(v.kind.wL.isNone || Km P k v)&&pR P l&&pR P r
def Xu {P:Xcv} :∀{T:TT},pR P T=true->ur P T
 | .wi,_=>λt=>.inl rfl
 | .node k v l r,h=>λt=>by
  simp only[pR,X27,Xcx] at h;simp only[TT.get];cases F:Xab t k with
  | true=>
   have:=X30 F;subst this;simp only;rcases h.1.1 with h|h
   ·exact .inl (by simpa using h)
   exact .inr (qT h)
  | false=>
   simp only;cases Xcf t k with
   | true=>exact Xu h.1.2 t
   | false=>exact Xu h.2 t
abbrev zw (wl:WL)(P:Xcv)(T:TT)(wc:Xdm->I C)(inl:Xdm->C)(ex np:Nat):Cx:=⟨T,np,Ao wl P,wc,wl.G,inl,Xa wl P,ex⟩
def lu {wl:WL}{P:Xcv}{T:TT}(J:ur P T)(K:P.follows .mixedOrders=true)(wc:Xdm->I C)(inl:Xdm->C)(ex:Nat){f:Xdm}{fn:Func}{args:I AV}{gL:I OB}{H:AV}{F:I OB} (M : P.funcs[f]? = some fn) (Q : (fn.name == "runtime.NumGoroutine") = false) (h : Yy (zw wl P T wc inl ex gL.length) fn args gL fun r o => r = H ∧ o = F) : Ao wl P f args gL H F :=
 cU (cx:=zw wl P T wc inl ex gL.length) J ⟨rfl,λ_ _ _ _ _ h=>h,λ_ _ _ _ h=>h⟩ (Qc J ⟨rfl,λ_ _ _ _ _ h=>h,λ_ _ _ _ h=>h⟩ K) M (by simpa using Q) h
def j9 {wl:WL}{P:Xcv}{T:TT}(F:ur P T)(H:P.follows .mixedOrders=true)(wc:Xdm->I C)(inl:Xdm->C)(np:Nat){f:Xdm}{fn:Func}{args:I AV}{ob:I (O OB)}{K:AV->I (O OB)->Prop} (J : P.funcs[f]? = some fn) (M : (fn.name == "runtime.NumGoroutine") = false) (h : jt (zw wl P T wc inl 0 np) fn args ob K) : Xa wl P f args ob K :=
 .inl <| dW (cx:=zw wl P T wc inl 0 np) F ⟨rfl,λ_ _ _ _ _ h=>h,λ_ _ _ _ h=>h⟩ (Qc F ⟨rfl,λ_ _ _ _ _ h=>h,λ_ _ _ _ h=>h⟩ H) J (by simpa using M) h
def wv (x:Int):Prop:=-9223372036854775808<=x/\x<=9223372036854775807
def SS {a b:Int}(F:a=b)(H:wv b):Xdt.wrap a=b:=by subst F;exact IntWalk.i64_in a H
def wv.of {x:Int}(h:-9223372036854775808<=x/\x<=9223372036854775807):wv x:=h
end Go.AX
end
section
namespace Go.AX
open Go.RowKit
def zC (w:B):Sc:=λb o=>∃v,cellAt w b o=some v
def pg {P:Xcv}{f:Xdm}{args:I AV}{K:AV}{wl:WL}(h:Ao wl P f args [] K [])(w:B){gb:Nat->Prop}(hg:wl.gf gb w/\∀b,gb b->b<w.heap.size)(F:Array A)(V:F.size=args.length) (H :∀i (hi:i<args.length),gT (zC w) w (λ_=>none) (vi []) args[i] (F.getD i Xck)/\iA (vi []) args[i]) : Calls P f F w λe w'=>(∃v S φ,e=.returned v/\gT S w' φ (vi []) K v)/\Below w.heap.size w w':=by
 have Q :∀r,vi [] r=none:=λr=>by simp[vi]
 refine (h.2 w (zC w) (λ_=>none) gb ⟨hg.1,hg.2,(by rintro b hb ⟨r,c,Y,_⟩;simp at Y),λb o _ Z=>by
  cases J:cellAt w b o with
  | none=>exact absurd J Z
  | some v=>exact⟨v,J⟩⟩ F V H (λ_ _=>rfl) ⟨λr o M=>by rw[Q] at M;simp at M,λr _ _ _ _ H=>absurd (Q r) H,λr o M=>by rw[Q] at M;simp at M,λ_ _ h=>h,λ_ _ _=>rfl,λb o hS=>?_,λ_ _ h _ _=>h,λ_ _ _=>rfl,Xam _,λr _ _ H=>absurd (Q r) H,⟨rfl,rfl,rfl,.inr (Xam _)⟩⟩).mono λe w' he=>?_
 ·obtain⟨v,J⟩:=hS;refine Xby λU=>?_;simp[cellAt,World.cell?,U] at J
 obtain⟨v,rfl,S',φ',m,_,J,_⟩:=he;refine⟨⟨v,S',φ',rfl,J⟩,m.os.1,m.os.2.2.1,m.os.2.1,m.sz,λk hk=>m.fr k hk ?_⟩;rintro⟨r,c,H,_⟩;exact absurd H (by simp)
def gG {P:Xcv}{f:Xdm}{args:I AV}{wl:WL}(h:Ao wl P f args [] (.b true) [])(w:B){gb:Nat->Prop}(hg:wl.gf gb w/\∀b,gb b->b<w.heap.size)(F:Array A)(H:F.size=args.length) (J :∀i (Q:i<args.length),gT (zC w) w (λ_=>none) (vi []) args[i] (F.getD i Xck)/\iA (vi []) args[i]) : Calls P f F w λe w'=>e=.returned (.bool true)/\Below w.heap.size w w':=
 (pg h w hg F H J).mono λe w' ⟨⟨v,S,φ,he,K⟩,M⟩=>⟨by rw[he,K.bool],M⟩
end Go.AX
end
section
namespace Go.AX
open Go.RowKit Go.Deep Go.ChangeShapes Go.WideShapes
section
variable {H:Type} {enc:TypeId×A->H} {P:Program} {w:B}
def xg (w:B)(F:I D)(J:I A):Prop:=
 F.length=J.length/\(∀d∈F,d.isAgg=false)/\∀j (K:j<F.length) v,J[j]?=some v->vm (zC w) w F[j] v
def Wt (P:Xcv)(t:Nat)(d:DataW H):Prop:=(d.weights P t).all (·<=Xbw)=true
def xC {e:Nat} :∀{l:I (DataW H)} {d:DataW H},d∈l->∀n∈d.weights P e,n∈DataW.weightsAll P e l
 | x::l,d,F,n,J=>by
  simp only[DataW.weightsAll,X23];rcases Xa3.1 F with rfl|F
  ·exact .inl J
  exact .inr (xC F n J)
def Wt.slice {t e:Nat}{el F:I (DataW H)}(J:P.underlying t=some (.slice e))(h:Wt P t (.slice el F)):(el.length+F.length)*P.bytesOf e<=Xbw/\∀d∈el,Wt P e d:=by have h:=Xa0.1 h;simp only[DataW.weights,J,Xa3,X23] at h;refine⟨by simpa using h _ (.inl rfl),λd K=>Xa0.2 λn M=>h n (.inr (.inl (xC K n M)))⟩
def Wt.string {t:Nat}{b:I S}(h:Wt (H:=H) P t (.lit (.string b))):b.length<=Xbw:=by have h:=Xa0.1 h;simp only[DataW.weights] at h;simpa using h _ (X14.2 rfl)
def Wt.agg {t:Nat}{F:Array Field}{J:I (DataW H)}(K:P.underlying t=some (.struct F))(h:Wt P t (.agg J)){i:Nat}{f:Field}{d:DataW H}(M:F[i]?=some f)(Q:J[i]?=some d):Wt P f.type d:=by have h:=Xa0.1 h;simp only[DataW.weights,K] at h;exact Xa0.2 λn U=>h n (DataW.weights_mem_each (ts:=F.toList.map (·.type)) (j:=i) (by simp[M]) Q n U)
structure Bu (H:Type)(P:Program) where
 W:Nat->DataW H->Prop
 S:Nat->Nat->Prop
 B:Nat
 slice :∀{t e:Nat} {el sp:List (DataW H)},P.underlying t=some (.slice e)->W t (.slice el sp)->S e el.length/\∀d∈el,W e d
 string :∀{t:Nat} {b:List UInt8},W t (.lit (.string b))->b.length<=B
 agg :∀{t:Nat} {F:Array Field} {ds:List (DataW H)},P.underlying t=some (.struct F)->W t (.agg ds)->∀{i:Nat} {f:Field} {d:DataW H},F[i]?=some f->ds[i]?=some d->W f.type d
def n4 (L:Bu H P)(enc:TypeId×A->H)(w:B)(t:Nat){α:Type}(cells:α->I D)(ok:α->Prop):Prop:=
 ∀tE F x,DataW.trod enc P w 0 (λ_=>true) true tE t F=some x->L.W t x.1->∃a,ok a/\xg w (cells a) F
variable {L:Bu H P}
def xg.one {d:D}{v:A}(K:d.isAgg=false)(h:vm (zC w) w d v):xg w [d] [v]:=
 ⟨rfl,λx F=>by simp only[X14] at F;rw[F];exact K,λj M u J=>by
  have:j=0:=by simpa using M
  subst this;simp only[List.getElem?_cons_zero,X24] at J;subst J
  exact h⟩
def xg.append {K es:I D}{Q U:I A}(h:xg w K Q)(k:xg w es U):xg w (K++es) (Q++U):=by
 obtain⟨V,Y,Z⟩:=h;obtain⟨k1,k2,k3⟩:=k;refine⟨by simp[V,k1],λd F=>?_,λj hj v J=>?_⟩
 ·rcases X23.1 F with F|F
  ·exact Y d F
  exact k2 d F
 rw[Xdk];split
 ·rename_i M;rw[Xai (by omega)] at J;exact Z j M v J
 rename_i a1;rw[Xap (by omega),<- V] at J;exact k3 (j-K.length) (by simp at hj;omega) v J
def n4.map {t:Nat}{α K:Type}{cells:α->I D}{ok:α->Prop}(h:n4 L enc w t cells ok){F:K->I D}{J:K->Prop}(g:α->K)(M :∀a,F (g a)=cells a)(Q :∀a,ok a->J (g a)):n4 L enc w t F J:=by intro tE U x V Y;obtain⟨a,Z,h2⟩:=h tE U x V Y;exact⟨g a,Q a Z,by rw[M];exact h2⟩
def Ss {t:Nat}{k:IntKind}(F:P.underlying t=some (.int k)):n4 L enc w t (λn:Int=>[.val (.int k n)]) (λn=>(Lit.int k n).wf=true):=by intro tE K x h _;obtain⟨n,rfl,_,J⟩:=DataW.trod_int F h;exact⟨n,J,xg.one rfl (.val _ rfl)⟩
def yk {t:Nat}(F:P.underlying t=some .bool):n4 L enc w t (λb:C=>[.val (.bool b)]) (λ_=>True):=by intro tE J x h _;obtain⟨b,rfl,_⟩:=DataW.trod_bool F h;exact⟨b,trivial,xg.one rfl (.val _ rfl)⟩
def xV {t:Nat}(F:P.underlying t=some .string):n4 L enc w t (λs:T=>[.val (.string s)]) (λs=>s.size<=Xb3/\s.size<=L.B):=by intro tE M x h J;obtain⟨s,rfl,rfl,K⟩:=DataW.trod_string F h;have:=L.string J;rw[Xan] at this;exact⟨s,⟨K,this⟩,xg.one rfl (.val _ rfl)⟩
def sv {t e sz:Nat}{α:Type}{el:α->D}{ok:α->Prop}{sok:Nat->Prop}(ht:P.underlying t=some (.slice e))(w8:P.cellsOf e=sz)(a1:0<sz)(a6:sok 0)(a7 :∀n,L.S e n->sok n)(h:n4 L enc w e (λa=>(el a).cells) ok) : n4 L enc w t (λl:I α=>[.wE sz (l.map el)]) (λl=>l.length<=Xb3/\sok l.length/\∀a∈l,ok a):=by
 intro tE cs x hx hw;rcases open_slice ht hx with ⟨rfl,_⟩|⟨a,len,af,m,n,D,Pl,rfl,_,a8,hm,Y,rfl,aa⟩
 ·exact⟨[],⟨by simp,a6,by simp⟩,xg.one rfl (.w9 _ _ _)⟩
 obtain⟨Z,ag⟩:=L.slice ht hw;have Z:sok len:=a7 _ (by simpa using Z);have Y:m=af:=Y.trans (Wr rfl);subst Y;rw[w8] at aa;have one :∀i,i<len->∃q:α×I A,ok q.1/\xg w (el q.1).cells q.2/\w.cells? 0 (a.add (i*sz)) sz=some q.2:=by intro i F;obtain⟨ab,h1,Q⟩:=aa i (by omega);obtain⟨b,h3,h4⟩:=h n ab _ Q (ag _ (Xaf.2 ⟨i,Xdn.2 F,rfl⟩));exact⟨(b,ab),h3,h4,h1⟩
 by_cases h0:len=0
 ·subst h0;exact⟨[],⟨by simp,a6,by simp⟩,xg.one rfl (.w9 _ _ _)⟩
 obtain⟨q0,_⟩:=one 0 (by omega);haveI:Inhabited (α×I A):=⟨q0⟩;obtain⟨f,hf⟩:=choose_lt one;have J:a.spot=none:=by
  obtain⟨_,_,h3⟩:=hf 0 (by omega);obtain⟨_,hl,hc⟩:=World.cells?_some h3;have:=hc 0 a1;rw[Nat.zero_mul] at this;have e:(a.add 0).add 0=a:=by simp[Addr.add]
  rw[e] at this;have U:0<(f 0).2.length:=by omega
  rw[X15 U] at this;unfold World.cell? at this;split at this
  ·cases hs:a.spot with
   | none=>rfl
   | some s=>simp[hs] at this
  simp at this
 obtain⟨b,o,sp⟩:=a;simp only at J;subst J;have ae :∀i j,((⟨b,o,none⟩:Addr).add i).add j=⟨b,o+i+j,none⟩:=by intro i j;rw[Addr.wB,Addr.wB]
 have K :∀i j,i<len->j<sz->∃v,(f i).2[j]?=some v/\cellAt w b (o+i*sz+j)=some v:=by
  intro i j F V;obtain⟨_,_,h3⟩:=hf i F;obtain⟨_,hl,hc⟩:=World.cells?_some h3;have:=hc j V;rw[ae] at this;have U:j<(f i).2.length:=by omega
  exact⟨(f i).2[j],X15 U,by rw[X15 U] at this;exact this⟩
 have M :∀i,i<len->(el (f i).1).cells.length=sz:=by intro i F;obtain⟨_,Q,h3⟩:=hf i F;obtain⟨_,hl,_⟩:=World.cells?_some h3;rw[Q.1,hl]
 refine⟨(Xbv len).map λi=>(f i).1,⟨by simp;omega,by simpa using Z,λa ha=>?_⟩,xg.one rfl ?_⟩
 ·obtain⟨i,F,rfl⟩:=Xaf.1 ha;exact (hf i (Xdn.1 F)).1
 have hL:(((Xbv len).map λi=>(f i).1).map el).length=len:=by simp
 have:=vm.wE (S:=zC w) (w:=w) sz (((Xbv len).map λi=>(f i).1).map el) b o m (λi j=>((f i).2[j]?).getD Xck) (by rw[hL];exact Xb1 a8 hm) (by rw[hL];exact a8) (λi F=>?_) (λi j F V=>?_) (λi F j V=>?_) (λi F j V=>?_)
 ·rw[hL] at this;exact this
 ·rw[hL] at F;simpa using M i F
 ·rw[hL] at F;obtain⟨v,h1,Q⟩:=K i j F V;exact⟨⟨v,Q⟩,by rw[Q,h1];rfl⟩
 ·rw[hL] at F;obtain⟨_,Q,_⟩:=hf i F;exact Q.2.1 _ (by simp)
 rw[hL] at F;obtain⟨_,Q,_⟩:=hf i F;simp only[Xb2,Xdr] at V⊢;have ah:j<sz:=by rw[M i F] at V;exact V
 obtain⟨v,h1,_⟩:=K i j F ah;rw[h1];exact Q.2.2 j V v h1
def lF (L:Bu H P)(enc:TypeId×A->H)(w:B):I (Nat×Nat)->I A->Prop
 | [],F=>F=[]
 | (t,sz)::fs,F=>sz<=F.length/\(∃tE x,DataW.trod enc P w 0 (λ_=>true) true tE t (F.take sz)=some x/\L.W t x.1)/\lF L enc w fs (F.drop sz)
def Xk (L:Bu H P)(enc:TypeId×A->H)(w:B)(fs:I (Nat×Nat)){α:Type}(cells:α->I D)(ok:α->Prop):Prop:=
 ∀F,lF L enc w fs F->∃a,ok a/\xg w (cells a) F
def tx:Xk L enc w [] (λ_:Unit=>[]) (λ_=>True):=by intro K h;cases h;exact⟨(),trivial,rfl,λd F=>by simp at F,λj J=>by simp at J⟩
def gF {t sz:Nat}{fs:I (Nat×Nat)}{α F:Type}{J:α->I D}{K:α->Prop}{M:F->I D}{ob:F->Prop}(Q:n4 L enc w t J K)(U:Xk L enc w fs M ob) : Xk L enc w ((t,sz)::fs) (λx:α×F=>J x.1++M x.2) (λx=>K x.1/\ob x.2):=by rintro cs ⟨_,⟨tE,x,V,Y⟩,Z⟩;obtain⟨a,h1,h2⟩:=Q tE _ _ V Y;obtain⟨b,h3,h4⟩:=U _ Z;exact⟨(a,b),⟨h1,h3⟩,by have:=h2.append h4;rwa [List.take_append_drop] at this⟩
def OJ (P:Xcv):Nat->I Field->I (Nat×Nat)->Nat->C
 | o,[],[],n=>Xab o n
 | o,f::F,(t,sz)::fs,n=>Xab f.offset o&&Xab f.type t&&Xab (P.cellsOf f.type) sz&&Xee (o+sz) n&&OJ P (o+sz) F fs n
 | _,_,_,_=>false
def eT {n:Nat}{J:I A}(Y:J.length=n) :∀(F:I Field) (fs:I (Nat×Nat)) (o:Nat),OJ P o F fs n=true-> (∀f∈F,∃tE x,DataW.trod enc P w 0 (λ_=>true) true tE f.type ((J.drop f.offset).take (P.cellsOf f.type))=some x/\L.W f.type x.1)->lF L enc w fs (J.drop o)
 | [],[],o,h,_=>by have:=X30 h;simp only[lF];exact List.drop_eq_nil_of_le (by omega)
 | f::F,(t,sz)::fs,o,h,K=>by simp only[OJ,X27,CL] at h;obtain⟨⟨⟨⟨Z,M⟩,h3⟩,Q⟩,h5⟩:=h;have Q:=X29 Q;obtain⟨tE,x,U,V⟩:=K f (by simp);rw[Z,h3,M] at U;rw[M] at V;refine⟨by simp;omega,⟨tE,x,U,V⟩,?_⟩;rw[List.drop_drop];exact eT Y F fs (o+sz) h5 λg hg=>K g (by simp[hg])
 | [],_::_,_,h,_=>by simp[OJ] at h
 | _::_,[],_,h,_=>by simp[OJ] at h
def r8 {t:Nat}{F:Array Field}{fs:I (Nat×Nat)}{α:Type}{cells:α->I D}{ok:α->Prop}(M:P.underlying t=some (.struct F))(V:OJ P 0 F.toList fs (P.cellsOf t)=true)(h:Xk L enc w fs cells ok) : n4 L enc w t cells ok:=by intro tE Q x Y Z;obtain⟨xs,n,_,rfl,hl,U,hf⟩:=DataW.trod_struct M Y;refine h Q ?_;refine (eT (enc:=enc) (w:=w) hl F.toList fs 0 V λf J=>?_:lF L enc w fs (Q.drop 0));obtain⟨i,K,rfl⟩:=Xad J;simp only[Xan] at K;have:=hf i F[i] (by simp[K]);rw[X15 (by omega)] at this;exact⟨n,_,by simpa using this,by simpa using L.agg M Z (i:=i) (f:=F[i]) (by simp[K]) (d:=xs[i].1) (by rw[Xd3,X15 (by omega)];rfl)⟩
def xg.val {d:D}{v:A}(h:xg w [d] [v]):vm (zC w) w d v:=h.2.2 0 (by simp) v (by simp)
def xg.agg {J:I D}{F:Array A}(h:xg w J F.toList):vm (zC w) w (.agg J) (.agg F):=by
 obtain⟨K,Q,U⟩:=h;refine .agg J F (λi=>F.getD i Xck) (by simpa using K.symm) (λi M=>?_) (λi M=>Q _ (by simp)) λi M=>U i M _ ?_
 ·have:i<F.size:=by have:=K;simp at this;omega
  simp[this]
 have:i<F.size:=by have:=K;simp at this;omega
 simp[this]
def jN {t:Nat}{α:Type}{cells:α->I D}{ok:α->Prop}(h:n4 L enc w t cells ok){F:Array A}{d:DataW H}{p:I MemPlace} (J:DataW.Trod enc P w 0 (λ_=>true) true t (.agg F) d p) (K:L.W t d) :∃x,ok x/\vm (zC w) w (.agg (cells x)) (.agg F):=by obtain⟨tE,M⟩:=J;obtain⟨x,Q,U⟩:=h tE _ _ M K;exact⟨x,Q,xg.agg (by simpa[Value.cells] using U)⟩
end
end Go.AX
end
