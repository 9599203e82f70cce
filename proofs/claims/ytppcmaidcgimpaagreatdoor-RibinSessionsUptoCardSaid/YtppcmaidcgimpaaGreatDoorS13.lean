/-
  Texts of one proof, packed.
-/
import Derived.Test.YtppcmaidcgimpaaGreatDoorS12
import Derived.Below
import Derived.Deep.Slices
import Derived.IntWalk
import Derived.SizedLaws
set_option linter.all false
set_option maxRecDepth 100000
set_option maxHeartbeats 4000000
open List renaming length_map→X6,length_append→X10,length_cons→X11,length_nil→X12,mem_singleton→X13,getElem?_eq_getElem→X14,length_drop→X16,length_take→X17,length_replicate→X19,length_set→X20,mem_append→X22
open Option.some renaming injEq→X23,inj→X24
open Prod.mk renaming injEq→X25
open Bool renaming and_eq_true→X26
open Nat renaming le_of_ble_eq_true→X28,eq_of_beq_eq_true→X29
open List renaming range→Xb2
open Go renaming maxLen→Xb6,reachBytes→Xbc,undef→Xbn,Program→Xcn,FuncId→Xcs
open Nat renaming beq→Xa0,blt→Xbv,ble→Xdl
open Array renaming getD→Xd9
open Go.Region renaming ready→Xdo
open Go.Value renaming cells→Xdj
open Go.IntKind renaming i64→Xdk
section
namespace Go.AX
def Wb :∀(l:I z) (done:I z) (acc:I (I Nat)),acc.length=done.length-> (∀p (hp:p<done.length),(Bz done[p]).all (λj=>Xbv j p)=true->∀k∈acc.getD (acc.length-1-p) [],k∈Bz done[p] \/∃q∈Bz done[p],k∈acc.getD (acc.length-1-q) [])-> (IS l acc).length=(done++l).length/\∀p (hp:p<(done++l).length),(Bz (done++l)[p]).all (λj=>Xbv j p)=true->∀k∈(IS l acc).getD ((IS l acc).length-1-p) [],k∈Bz (done++l)[p] \/∃q∈Bz (done++l)[p],k∈(IS l acc).getD ((IS l acc).length-1-q) []
 | [],done,acc,hlen,h=>by simpa[IS,hlen] using h
 | o::l,done,acc,hlen,h=>by
  simp only[IS];have:=Wb l (done++[o]) (((Bz o).flatMap λj=>j::acc.getD (acc.length-1-j) [])::acc) (by simp[hlen]) ?_
  ·simpa using this
  intro p hp V k F;simp only[X10,X11,X12,Xaa] at hp;have H :∀q,q<acc.length->(((Bz o).flatMap λj=>j::acc.getD (acc.length-1-j) [])::acc).getD ((((Bz o).flatMap λj=>j::acc.getD (acc.length-1-j) [])::acc).length-1-q) []=acc.getD (acc.length-1-q) []:=by
   intro q Q;have:(((Bz o).flatMap λj=>j::acc.getD (acc.length-1-j) [])::acc).length-1-q=(acc.length-1-q)+1:=by simp only[X11];omega
   rw[this,List.getD_cons_succ]
  rcases Nat.lt_or_ge p done.length with J|a1
  ·rw[H p (by omega)] at F;have K:(Bz done[p]).all (λj=>Xbv j p)=true:=by simpa[Xa9 J] using V
   rw[Xa9 J];rcases h p J K k F with U|⟨q,U,h2⟩
   ·exact .inl U
   refine .inr ⟨q,U,?_⟩;have:=Xm.1 K q U;have Y:q<p:=by simpa using this
   rw[H q (by omega)];exact h2
  have Z:p=done.length:=by omega
  subst Z;have M:(done++[o])[done.length]'(by simp)=o:=by simp
  rw[M] at V⊢;have:(((Bz o).flatMap λj=>j::acc.getD (acc.length-1-j) [])::acc).length-1-done.length=0:=by simp only[X11];omega
  rw[this,List.getD_cons_zero] at F;obtain⟨q,Q,F⟩:=Xd0.1 F;rcases Xp.1 F with rfl|F
  ·exact .inl Q
  refine .inr ⟨q,Q,?_⟩;have:=Xm.1 V q Q;have Y:q<done.length:=by simpa using this
  rw[H q (by omega)];exact F
def Jg {F:Array z}{p:Nat}{o:z}(Q:F[p]?=some o)(U:(Bz o).all (λj=>Xbv j p)=true){k:Nat}(J:k∈GB F p) : k∈Bz o \/∃q∈Bz o,k∈GB F q:=by obtain⟨K,M⟩:=Wb F.toList [] [] rfl (λp hp=>by simp at hp);obtain⟨hp,H⟩:=Xbo.1 Q;simp only[Xba,Xaf] at K M;have:=M p (by simpa using hp);simp only[Array.getElem_toList,H,K] at this;unfold GB at J⊢;exact this U k J
def Ui {F:Array z}{f:Nat->I Nat×I Nat}{i:Nat}{K wr:I Nat} :∀(n j:Nat),EV.sb F i K wr j ((List.range' j n).map f)=true-> ∀k,j<=k->k<j+n->i∈GB F k\/((∀r∈wr,r∉(f k).1)/\∀r∈K,r∉(f k).2)
 | 0,j,_,k,h1,M=>by omega
 | n+1,j,h,k,h1,M=>by
  simp only[List.range'_succ,Xb5,EV.sb] at h;rw[show f j=((f j).1,(f j).2) from rfl] at h;simp only[X26,Xcu] at h;rcases Nat.eq_or_lt_of_le h1 with rfl|Q
  ·rcases h.1 with H|H
   ·exact .inl (by simpa using H)
   refine .inr ⟨λr J=>?_,λr J=>?_⟩
   ·have:=Xm.1 H.1 r J;simpa using this
   have:=Xm.1 H.2 r J;simpa using this
  exact Ui n (j+1) h.2 k (by omega) (by omega)
def LI {F:Array z}{f:Nat->I Nat×I Nat} :∀(n i:Nat),EV F i ((List.range' i n).map f)=true-> ∀j k,i<=j->j<k->k<i+n->j∈GB F k\/((∀r∈(f j).2,r∉(f k).1)/\∀r∈(f j).1,r∉(f k).2)
 | 0,i,_,j,k,h1,H,J=>by omega
 | n+1,i,h,j,k,h1,H,J=>by
  simp only[List.range'_succ,Xb5] at h;rw[show f i=((f i).1,(f i).2) from rfl] at h;simp only[EV,X26] at h;rcases Nat.eq_or_lt_of_le h1 with rfl|K
  ·exact Ui n (i+1) h.1 k (by omega) (by omega)
  exact LI n (i+1) h.2 j k (by omega) H (by omega)
def O3 {cx:Cx}{F:Array z} :∀(os:I z) (i:Nat) (H:I (I Nat×I Nat)) {st:pw} {K:I (I Nat×I Nat)->pw->Prop}, (∀k (J:k<os.length),F[i+k]?=some os[k])->TD cx F os H st K-> ∃(es:I (I Nat×I Nat)) (fin:pw),es.length=os.length/\K (H.reverse++es) fin/\∀f:Nat->I Nat×I Nat,(∀k (J:k<es.length),f (i+k)=es[k])->ud cx F f fin (List.range' i os.length) st
 | [],i,H,st,K,_,h=>⟨[],st,rfl,by simpa[TD] using h,λf _=>rfl⟩
 | o::os,i,H,st,K,Q,h=>by
  have h:MY cx F o st λM=>TD cx F os ((RP cx.np o st.tm,fU cx.np o st.tm M.tm)::H) M K:=by obtain⟨tm,ob⟩:=st;exact h
  obtain⟨v,w,h,V⟩:=kc h
  obtain⟨es,fin,Y,Z,h3⟩:=O3 os (i+1) _ (λk J=>by
   have:=Q (k+1) (by simpa using J)
   rw[show i+1+k=i+(k+1) by omega,this];rfl) h
  refine⟨(RP cx.np o st.tm,fU cx.np o st.tm (sH o.dst v w st).tm)::es,fin,by simp[Y],by simpa using Z,λf U=>?_⟩;simp only[X11,List.range'_succ];refine⟨o,v,w,Q 0 (by simp),?_,h3 f λk J=>?_⟩
  ·have:=U 0 (by simp);simp only[Xcc,Xao] at this;rw[this];exact V
  have:=U (k+1) (by simpa using J);rw[show i+1+k=i+(k+1) by omega,this];rfl
def DY {F:Array z}(h:E1 F=true){i:Nat}{o:z}(K:F[i]?=some o) : (Bz o).all (λj=>Xbv j i)=true/\∀j,j<i->j∈GB F i \/∀q,F[j]?=some q->q.apart F o=true:=by
 obtain⟨M,_⟩:=Xbo.1 K;have J:=Xm.1 h i (Xcr.2 M);simp only[K,X26] at J;refine⟨J.1.1,λj Q=>?_⟩;have H:=Xm.1 J.2 j (Xcr.2 Q);simp only[Xcu] at H;rcases H with H|H
 ·exact .inl (by simpa using H)
 refine .inr λq U=>?_;simpa[U] using H
def Jk {H:Array z}(M:E1 H=true){listed:Nat->Prop}(F :∀i o,H[i]?=some o->listed i->∀j∈Bz o,listed j) : ∀(n i:Nat),i<n->i<H.size->listed i->∀k∈GB H i,listed k
 | 0,i,h,_,_=>by omega
 | n+1,i,h,V,Q=>by
  intro k Y;have J:H[i]?=some H[i]:=by simp[V]
  obtain⟨U,_⟩:=DY M J;rcases Jg J U Y with K|⟨q,K,Z⟩
  ·exact F i _ J Q k K
  have:=Xm.1 U q K;have hq:q<i:=by simpa using this
  exact Jk M F n q (by omega) (by omega) (F i _ J Q q K) k Z
def I3 {F:Array z}{listed:Array C}{i:Nat}(h:i∈Xdo .any F listed) : i<F.size/\listed.getD i true=false/\∃o,F[i]?=some o/\∀j∈Bz o,listed.getD j false=true:=by
 unfold Xdo at h;rw[Xcv,Xcr] at h;obtain⟨K,h⟩:=h;have M:F[i]?=some F[i]:=by simp[K]
 simp only[X26,M,Xbf,Xaw] at h;refine⟨K,by simpa using h.1,_,M,λj Q=>?_⟩;unfold Bz at Q;obtain⟨e,U,rfl⟩:=Xaz.1 Q;obtain⟨H,J⟩:=Xcv.1 U;have:=Array.all_eq_true'.1 h.2 e (by simpa using H);simpa[J] using this
def mem_ready {F:Array z}{listed:Array C}{i:Nat}{o:z}(H:F[i]?=some o)(J:listed.getD i true=false)(hp :∀j∈Bz o,listed.getD j false=true):i∈Xdo .any F listed:=by
 obtain⟨K,_⟩:=Xbo.1 H;unfold Xdo;rw[Xcv,Xcr];refine⟨K,?_⟩;simp only[X26,H,Xbf,Xaw];refine⟨by simp[J],Array.all_eq_true'.2 λe M=>?_⟩;cases Q:Region.binds .any e with
 | false=>rfl
 | true=>simp only[Bool.not_true,Bool.false_or];exact hp e.on (Xaz.2 ⟨e,Xcv.2 ⟨by simpa using M,Q⟩,rfl⟩)
section
variable {P:Program} {E:Env} {tr:Trk}
def UW {cx:Cx}(hT:py P cx.T)(hC:QA E.wl P cx){F:Array z}{f:Nat->I Nat×I Nat}{fin:pw}{Q:Exit->Act->B->Prop} (hd:E1 F=true) (hc :∀j k,j<k->k<F.size->j∈GB F k\/((∀r∈(f j).2,r∉(f k).1)/\∀r∈(f j).1,r∉(f k).2)) (hQ :∀a w,RR E tr fin a w->Q .normal a w) :∀(qb:Nat) (L:I Nat) (listed:Array C) {st:pw} {a:Act} {w:B}, L.length=qb->listed.size=F.size->L.Pairwise (·<·)->(∀k,k∈L↔k<F.size/\listed.getD k true=false)->(∀i o,F[i]?=some o->listed.getD i false=true->∀j∈Bz o,listed.getD j false=true)-> ud cx F f fin L st->RR E tr st a w->wpAny P .any F Q qb listed a w
 | 0,L,listed,st,a,w,hL,qE,hp,hm,H,J,hR=>by
  have:L=[]:=List.length_eq_zero_iff.1 hL;subst this;refine⟨?_,hQ _ _ (by rw[<- (show st=fin from J)];exact hR)⟩;cases hr:Xdo .any F listed with
  | nil=>rfl
  | cons i l=>obtain⟨V,h2,_⟩:=I3 (i:=i) (by rw[hr];simp);exact absurd ((hm i).2 ⟨V,h2⟩) (by simp)
 | qb+1,L,listed,st,a,w,hL,qE,hp,hm,H,J,hR=>by
  have gd :∀k,k<F.size->listed.getD k true=listed.getD k false:=λk U=>by simp[Xd9,qE,U]
  refine⟨λhr=>?_,λi hi=>?_⟩
  ·exfalso;cases L with
   | nil=>simp at hL
   | cons i l=>
    obtain⟨V,h2⟩:=(hm i).1 (by simp);have M:F[i]?=some F[i]:=by simp[V]
    have:i∈Xdo .any F listed:=mem_ready M h2 λj Y=>by
     obtain⟨hb,_⟩:=DY hd M;have:=Xm.1 hb j Y;have Z:j<i:=by simpa using this
     cases hx:listed.getD j false with
     | true=>rfl
     | false=>
      have ai:=(hm j).2 ⟨by omega,by rw[gd j (by omega)];exact hx⟩;rcases Xp.1 ai with e|e
      ·omega
      have:=(Xac.1 hp).1 j e;omega
    rw[hr] at this;simp at this
  obtain⟨V,h2,o,M,h3⟩:=I3 hi;have aj:=(hm i).2 ⟨V,h2⟩;obtain⟨pre,post,rfl⟩:=List.append_of_mem aj;obtain⟨ak,ab,a1⟩:=Xb4.1 hp;have a6 :∀j∈pre,qX F f j i:=by
   intro j Y;have Z:j<i:=a1 j Y i (by simp);have ae:¬ listed.getD j false=true:=by obtain⟨q1,q2⟩:=(hm j).1 (by simp[Y]);rw[gd j q1] at q2;rw[q2];simp
   have af:j∉GB F i:=by
    intro al;obtain⟨hb,_⟩:=DY hd M;rcases Jg M hb al with e|⟨q,e1,e2⟩
    ·exact ae (h3 j e)
    have:=Xm.1 hb q e1;have hq:q<i:=by simpa using this
    exact ae (Jk hd (listed:=λk=>listed.getD k false=true) H (q+1) q (by omega) (by omega) (h3 q e1) j e2)
   refine⟨λx y hx hy=>?_,?_⟩
   ·rw[M] at hy;cases hy;exact ((DY hd M).2 j Z).resolve_left af x hx
   exact (hc j i Z V).resolve_left af
  obtain⟨o',v,wr,ag,hs,a7⟩:=YY pre a6 J;rw[M] at ag;cases ag;have a8:MY cx F o st λK=>ud cx F f fin (pre++post) K:=hs.go st (λ_ _=>rfl) (λ_ _=>rfl) _ a7;have aa :∀K a' w',ud cx F f fin (pre++post) K->RR E tr K a' w'->wpAny P .any F Q qb (listed.setIfInBounds i true) a' w':=by
   intro K a' w' an ao;have gs :∀k b,(listed.setIfInBounds i true).getD k b=if k=i then true else listed.getD k b:=by
    intro k b;by_cases U:k=i
    ·subst U;simp[Xd9,qE,V]
    have:¬ i=k:=λe=>U e.symm;simp only[U,Xd5,Xd9,Array.size_setIfInBounds];split
    ·rename_i ap;exact Array.getElem_setIfInBounds_ne ap this
    rfl
   refine UW hT hC hd hc hQ qb (pre++post) (listed.setIfInBounds i true) (by simp at hL⊢;omega) (by simpa using qE) ?_ (λk=>?_) ?_ an ao
   ·exact Xb4.2 ⟨ak,(Xac.1 ab).2,λx hx y hy=>a1 x hx y (by simp[hy])⟩
   ·rw[gs];have:=hm k;by_cases U:k=i
    ·subst U;simp only[Xdt];constructor
     ·intro hh;rcases X22.1 hh with hh|hh
      ·exact absurd (a1 k hh k (by simp)) (by omega)
      exact absurd ((Xac.1 ab).1 k hh) (by omega)
     intro hh;simp at hh
    simp only[U,Xd5];rw[<- this];simp[U]
   intro j q hq hl p ah;rw[gs] at hl⊢;split
   ·rfl
   by_cases Y:j=i
   ·subst Y;rw[M] at hq;cases hq;exact h3 p ah
   simp only[Y,Xd5] at hl;exact H j q hq hl p ah
  unfold wpOp;simp only[M];have:=Sl (Q:=Q) hT hC a8 hR (next:=wpAny P .any F Q qb (listed.setIfInBounds i true)) aa;split
  ·rename_i hw;rw[Xl hw] at this;exact .inl this
  rename_i hw;rw[Xk hw] at this;exact this
def RF {cx:Cx}(hT:py P cx.T)(hC:QA E.wl P cx){F:Array z}{f:Nat->I Nat×I Nat}{fin:pw}{Q:Exit->Act->B->Prop}{t:Nat}(ht:t+1=F.size)(a1 :∀j,j<t->j∈GB F t) (hd:E1 F=true) (hc :∀j k,j<k->k<t->j∈GB F k\/((∀r∈(f j).2,r∉(f k).1)/\∀r∈(f j).1,r∉(f k).2)) (hQ :∀a w,RR E tr fin a w->wpOp P F Q t (Q .normal) a w) :∀(qb:Nat) (L:I Nat) (listed:Array C) {st:pw} {a:Act} {w:B}, L.length=qb->listed.size=F.size->L.Pairwise (·<·)->listed.getD t true=false->(∀k,k∈L↔k<t/\listed.getD k true=false)->(∀i o,F[i]?=some o->listed.getD i false=true->∀j∈Bz o,listed.getD j false=true)-> ud cx F f fin L st->RR E tr st a w->wpAny P .any F Q (qb+1) listed a w
 | 0,L,listed,st,a,w,hL,qE,hp,a6,hm,H,U,hR=>by
  have:L=[]:=List.length_eq_zero_iff.1 hL;subst this;have gd :∀k,k<F.size->listed.getD k true=listed.getD k false:=λk K=>by simp[Xd9,qE,K]
  have V :∀k,k<t->listed.getD k true=true:=by
   intro k K;cases hx:listed.getD k true with
   | true=>rfl
   | false=>exact absurd ((hm k).2 ⟨K,hx⟩) (by simp)
  have ah:F[t]?=some (F[t]'(by omega)):=by simp[show t<F.size by omega]
  have ap :∀j∈Bz (F[t]'(by omega)),listed.getD j false=true:=by
   intro j hj;obtain⟨hb,_⟩:=DY hd ah;have:=Xm.1 hb j hj;have Y:j<t:=by simpa using this
   rw[<- gd j (by omega)];exact V j Y
  have ai:t∈Xdo .any F listed:=mem_ready ah a6 ap;refine⟨λhr=>?_,λi hi=>?_⟩
  ·rw[hr] at ai;simp at ai
  obtain⟨h1,h2,_⟩:=I3 hi;have a7:i=t:=by refine Nat.le_antisymm (by omega) (Nat.le_of_not_lt λJ=>?_);rw[V i J] at h2;simp at h2
  subst a7;refine wpOp_mono (λa' w' hq=>⟨?_,hq⟩) (hQ a w (by rw[<- (show st=fin from U)];exact hR));cases hr:Xdo .any F (listed.setIfInBounds i true) with
  | nil=>rfl
  | cons k l=>
   exfalso;obtain⟨h3,h4,_⟩:=I3 (i:=k) (by rw[hr];simp);by_cases K:k=i
   ·subst K;simp[Xd9,qE,h1] at h4
   have h5:(listed.setIfInBounds i true).getD k true=listed.getD k true:=by
    have:¬ i=k:=λe=>K e.symm;simp only[Xd9,Array.size_setIfInBounds];split
    ·rename_i J;exact Array.getElem_setIfInBounds_ne J this
    rfl
   rw[h5,V k (by omega)] at h4;simp at h4
 | qb+1,L,listed,st,a,w,hL,qE,hp,a6,hm,H,U,hR=>by
  have gd :∀k,k<F.size->listed.getD k true=listed.getD k false:=λk K=>by simp[Xd9,qE,K]
  refine⟨λhr=>?_,λi hi=>?_⟩
  ·exfalso;cases L with
   | nil=>simp at hL
   | cons i l=>
    obtain⟨az,h2⟩:=(hm i).1 (by simp);have h1:i<F.size:=by omega
    have M:F[i]?=some F[i]:=by simp[h1]
    have:i∈Xdo .any F listed:=mem_ready M h2 λj hj=>by
     obtain⟨hb,_⟩:=DY hd M;have:=Xm.1 hb j hj;have Y:j<i:=by simpa using this
     cases hx:listed.getD j false with
     | true=>rfl
     | false=>
      have aq:=(hm j).2 ⟨by omega,by rw[gd j (by omega)];exact hx⟩;rcases Xp.1 aq with e|e
      ·omega
      have:=(Xac.1 hp).1 j e;omega
    rw[hr] at this;simp at this
  obtain⟨h1,h2,o,M,h3⟩:=I3 hi;have a7:i≠t:=by
   intro e;subst e;cases L with
   | nil=>simp at hL
   | cons j l=>
    obtain⟨q1,q2⟩:=(hm j).1 (by simp);have a8:=a1 j q1;obtain⟨hb,_⟩:=DY hd M;rw[gd j (by omega)] at q2;rcases Jg M hb a8 with e|⟨q,e1,e2⟩
    ·rw[h3 j e] at q2;simp at q2
    have:=Xm.1 hb q e1;have hq:q<i:=by simpa using this
    have:=Jk hd (listed:=λk=>listed.getD k false=true) H (q+1) q (by omega) (by omega) (h3 q e1) j e2;rw[this] at q2;simp at q2
  have J:i<t:=by omega
  have ar:=(hm i).2 ⟨J,h2⟩;obtain⟨pre,post,rfl⟩:=List.append_of_mem ar;obtain⟨au,aj,aa⟩:=Xb4.1 hp;have ab :∀j∈pre,qX F f j i:=by
   intro j hj;have Y:j<i:=aa j hj i (by simp);have ak:¬ listed.getD j false=true:=by obtain⟨q1,q2⟩:=(hm j).1 (by simp[hj]);rw[gd j (by omega)] at q2;rw[q2];simp
   have al:j∉GB F i:=by
    intro a8;obtain⟨hb,_⟩:=DY hd M;rcases Jg M hb a8 with e|⟨q,e1,e2⟩
    ·exact ak (h3 j e)
    have:=Xm.1 hb q e1;have hq:q<i:=by simpa using this
    exact ak (Jk hd (listed:=λk=>listed.getD k false=true) H (q+1) q (by omega) (by omega) (h3 q e1) j e2)
   refine⟨λx y hx hy=>?_,?_⟩
   ·rw[M] at hy;cases hy;exact ((DY hd M).2 j Y).resolve_left al x hx
   exact (hc j i Y J).resolve_left al
  obtain⟨o',v,wr,an,hs,ae⟩:=YY pre ab U;rw[M] at an;cases an;have af:MY cx F o st λZ=>ud cx F f fin (pre++post) Z:=hs.go st (λ_ _=>rfl) (λ_ _=>rfl) _ ae;have ag :∀Z a' w',ud cx F f fin (pre++post) Z->RR E tr Z a' w'->wpAny P .any F Q (qb+1) (listed.setIfInBounds i true) a' w':=by
   intro Z a' w' ax ay;have gs :∀k b,(listed.setIfInBounds i true).getD k b=if k=i then true else listed.getD k b:=by
    intro k b;by_cases K:k=i
    ·subst K;simp[Xd9,qE,h1]
    have:¬ i=k:=λe=>K e.symm;simp only[K,Xd5,Xd9,Array.size_setIfInBounds];split
    ·rename_i J;exact Array.getElem_setIfInBounds_ne J this
    rfl
   refine RF hT hC ht a1 hd hc hQ qb (pre++post) (listed.setIfInBounds i true) (by simp at hL⊢;omega) (by simpa using qE) ?_ (by rw[gs,Xk (Ne.symm a7)];exact a6) (λk=>?_) ?_ ax ay
   ·exact Xb4.2 ⟨au,(Xac.1 aj).2,λx hx y hy=>aa x hx y (by simp[hy])⟩
   ·rw[gs];have:=hm k;by_cases K:k=i
    ·subst K;simp only[Xdt];constructor
     ·intro hh;rcases X22.1 hh with hh|hh
      ·exact absurd (aa k hh k (by simp)) (by omega)
      exact absurd ((Xac.1 aj).1 k hh) (by omega)
     intro hh;simp at hh
    simp only[K,Xd5];rw[<- this];simp[K]
   intro j q hq hl p ao;rw[gs] at hl⊢;split
   ·rfl
   by_cases hj:j=i
   ·subst hj;rw[M] at hq;cases hq;exact h3 p ao
   simp only[hj,Xd5] at hl;exact H j q hq hl p ao
  unfold wpOp;simp only[M];have:=Sl (Q:=Q) hT hC af hR (next:=wpAny P .any F Q (qb+1) (listed.setIfInBounds i true)) ag;split
  ·rename_i hw;rw[Xl hw] at this;exact .inl this
  rename_i hw;rw[Xk hw] at this;exact this
def TN {wl:WL}{cx:Cx}(hT:py P cx.T)(hC:QA wl P cx)(hm:P.follows .mixedOrders=true) :∀(E:Env),E.wl=wl->∀(tr:Trk) (id:Nat) (F:Array z) (st:pw) (a:Act) (w:B) (K:pw->Prop) (Q:Exit->Act->B->Prop),tr.np=cx.np-> E1 F=true->TD cx F F.toList [] st (λa1 U=>EV F 0 a1=true/\K U)->RR E tr st a w->(∀U a' w',K U->RR E tr U a' w'->Q .normal a' w')->(Code.region id F true).wp P Q a w:=by
 intro E a6 tr id F st a w K Q ab hd h hR hQ;subst a6;obtain⟨Z,fin,V,⟨M,hK⟩,H⟩:=O3 F.toList 0 [] (λk hk=>by simp at hk;simp[hk]) h;have H:=H (λk=>Z.getD k default) λk hk=>by simp[hk]
 simp only[Xaf] at V H;have a7:Z=(List.range' 0 F.size).map λk=>Z.getD k default:=by
  apply List.ext_getElem
  ·simp[V]
  intro k h1 h2;simp[h1]
 rw[List.reverse_nil,Xba,a7] at M;have Y:=LI F.size 0 M;refine wp_region_any hm ?_;obtain⟨S,φ,J,a8⟩:=hR;obtain⟨md,kd⟩:=J.mem.drew;have aa:RR E tr st a w.drew:=⟨S,φ,⟨J.sz,λi hi=>⟨kd.sF (J.tm i hi).2 (J.tm i hi).1,(J.tm i hi).2⟩,J.df,md⟩,a8⟩;refine UW hT hC hd (f:=λk=>Z.getD k default) (λj k h1 h2=>Y j k (by omega) h1 (by omega)) (λa w hR=>hQ fin a w hK hR) F.size (List.range' 0 F.size) _ (by simp) (by simp) List.pairwise_lt_range' (λk=>?_) ?_ H aa
 ·simp[Xd9]
 intro i o ho hl;simp[Xd9] at hl
def US :∀(l:I z),(KY l).length=l.length-1/\∀k (F:k<(KY l).length),∃H:k<l.length,(KY l)[k]=l[k]
 | []=>⟨rfl,λk F=>by simp[KY] at F⟩
 | [_]=>⟨rfl,λk F=>by simp[KY] at F⟩
 | o::p::l=>by
  obtain⟨K,J⟩:=US (p::l);refine⟨by simp only[KY,X11] at *;omega,λk F=>?_⟩;cases k with
  | zero=>exact⟨by simp,rfl⟩
  | succ k=>obtain⟨q1,q2⟩:=J k (by simpa[KY] using F);exact⟨by simpa using q1,by simpa[KY] using q2⟩
def UY {cx:Cx}{F:Array z}{st:pw}{K:pw->Prop} :∀{l:I z},hN cx F st K l->∃o,l[l.length-1]?=some o/\Yx cx F o st K
 | [],h=>h.elim
 | [o],h=>⟨o,rfl,h⟩
 | _::p::l,h=>by obtain⟨o,H,J⟩:=UY (l:=p::l) h;exact⟨o,by simpa using H,J⟩
def OG {wl:WL}{cx:Cx}(hT:py P cx.T)(hC:QA wl P cx)(hm:P.follows .mixedOrders=true):Vf wl P cx:=by
 intro E Z tr id F st a w K Q a1 h hR hQ;rcases h with ⟨hd,h⟩|⟨⟨hd,ht⟩,h⟩
 ·exact TN hT hC hm E Z tr id F st a w K Q a1 hd h hR hQ
 subst Z;simp only[Ov,X26,Xm,Xcr] at ht;obtain⟨a7,a6⟩:=ht;have ae:0<F.size:=X28 a7;obtain⟨il,ig⟩:=US F.toList;simp only[Xaf] at il
 obtain⟨es,fin,U,⟨M,hK⟩,H⟩:=O3 (KY F.toList) 0 [] (λk hk=>by
  obtain⟨q1,q2⟩:=ig k hk;rw[q2];simp only[Xaf] at q1
  simp[q1]) h
 have H:=H (λk=>es.getD k default) λk hk=>by simp[hk]
 rw[il] at U H;have a8:es=(List.range' 0 (F.size-1)).map λk=>es.getD k default:=by
  apply List.ext_getElem
  ·simp[U]
  intro k h1 h2;simp[h1]
 rw[List.reverse_nil,Xba,a8] at M;have V:=LI (F.size-1) 0 M;obtain⟨o,ho,Y⟩:=UY hK;simp only[Xaf] at ho;have ho:F[F.size-1]?=some o:=by simpa using ho
 refine wp_region_any hm ?_;obtain⟨S,φ,J,aa⟩:=hR;obtain⟨md,kd⟩:=J.mem.drew;have ab:RR E tr st a w.drew:=⟨S,φ,⟨J.sz,λi hi=>⟨kd.sF (J.tm i hi).2 (J.tm i hi).1,(J.tm i hi).2⟩,J.df,md⟩,aa⟩;have key:=RF (t:=F.size-1) (Q:=Q) (fin:=fin) hT hC (by omega) (λj hj=>by simpa using a6 j hj) hd (f:=λk=>es.getD k default) (λj k h1 h2=>V j k (by omega) h1 (by omega)) (λa w hR=>?_) (F.size-1) (List.range' 0 (F.size-1)) (Array.replicate F.size false) (by simp) (by simp) List.pairwise_lt_range' (by simp[Xd9,show F.size-1<F.size by omega]) (λk=>?_) (λi o ho hl=>?_) H ab
 ·rw[show F.size-1+1=F.size by omega] at key;exact key
 ·unfold wpOp;simp only[ho];have:=Pg (Q:=Q) hT hC a1 Y hR (next:=Q .normal) hQ;split
  ·rename_i hw;rw[Xl hw] at this;exact .inl this
  rename_i hw;rw[Xk hw] at this;exact this
 ·rw[List.mem_range'_1];constructor
  ·rintro⟨_,hi⟩;exact⟨by omega,by simp[Xd9,show k<F.size by omega]⟩
  rintro⟨hi,_⟩;exact⟨by omega,by omega⟩
 simp[Xd9] at hl
end
end Go.AX
end
section
namespace Go.AX
def e7:D->A->C
 | .val (.int k n),.int F H=>decide (k=F)&&decide (n=H)
 | .val (.bool b),.bool J=>b==J
 | .val (.string s),.string K=>Xa0 s.data.toList.length 0&&Xa0 K.data.toList.length 0
 | .val (.pointer none),.pointer none=>true
 | .val .nilFunc,.nilFunc=>true
 | .val .nilIface,.nilIface=>true
 | .val (.map none),.map none=>true
 | .nil _,.slice none 0 0=>true
 | _,_=>false
def gq {d:D}{v:A}(h:e7 d v=true):Ir d v:=by
 unfold e7 at h;split at h
 ·simp only[X26,Xh] at h;obtain⟨rfl,rfl⟩:=h;exact⟨rfl,rfl⟩
 ·have h:=eq_of_beq h;subst h;exact⟨rfl,rfl⟩
 ·rename_i s F;simp only[X26,Bj,List.length_eq_zero_iff] at h;have e:s=F:=by cases s;cases F;congr;apply Array.toList_inj.1;rw[h.1,h.2]
  subst e;exact⟨rfl,rfl⟩
 all_goals first|exact⟨rfl,rfl⟩|rfl|simp at h
def PT:I D->I A->C
 | [],[]=>true
 | d::F,v::H=>e7 d v&&PT F H
 | _,_=>false
def UU :∀{F:I D} {H:I A},PT F H=true->F.length=H.length/\∀j (J:j<F.length) v,H[j]?=some v->Ir F[j] v
 | [],[],_=>⟨rfl,λj J=>by simp at J⟩
 | d::F,v::H,h=>by
  simp only[PT,X26] at h;obtain⟨M,P⟩:=UU h.2;refine⟨by simp[M],λj J u K=>?_⟩;cases j with
  | zero=>simp only[List.getElem?_cons_zero,X23] at K;subst K;exact gq h.1
  | succ j=>exact P j (by simpa using J) u (by simpa using K)
 | [],_::_,h=>by simp[PT] at h
 | _::_,[],h=>by simp[PT] at h
def rY (P:Xcn):I Field->I (Nat×Nat×Nat)->C
 | [],[]=>true
 | f::fs,(o,s,t)::l=>Xa0 f.offset o&&Xa0 f.type t&&(match P.info? f.type with
  | some i=>Xa0 i.size s
  | none => false) && !(f.name == "_") && rY P fs l
 | _,_=>false
def Qs {P:Xcn} :∀{F:I Field} {l:I (Nat×Nat×Nat)},rY P F l=true-> F.map (fun f => (f.offset, (P.info? f.type).map (·.size), f.type)) = l.map (fun x => (x.1, some x.2.1, x.2.2)) ∧ ∀ f ∈ F, f.name ≠ "_"
 | [],[],_=>⟨rfl,λf J=>by simp at J⟩
 | f::fs,(o,s,t)::l,h=>by
  simp only[rY,X26,Bj] at h;obtain⟨⟨⟨⟨K,M⟩,H⟩,Q⟩,U⟩:=h;obtain⟨V,Y⟩:=Qs U;refine⟨?_,λg hg=>?_⟩
  ·simp only[Xb5,V,Xdb,X25,and_true];refine⟨K,?_,M⟩;split at H
   ·rename_i i Z;rw[Z];simpa using H
   simp at H
  rcases Xp.1 hg with rfl|hg
  ·simpa using Q
  exact Y g hg
 | [],_::_,h=>by simp[rY] at h
 | _::_,[],h=>by simp[rY] at h
def iN (P:Xcn)(t:Nat)(k:TK):C:=match k,P.underlying t with
 | .bool,some .bool=>true
 | .int k,some (.int J)=>decide (J=k)
 | .str,some .string=>true
 | .ptr,some (.pointer _)=>true
 | .fn,some (.func _ _ _)=>true
 | .slice e,some (.slice H)=>Xa0 H e
 | .arr n e,some (.array K H)=>Xa0 K n&&Xa0 H e
 | .map k e,some (.map J H)=>Xa0 J k&&Xa0 H e
 | .struct fs,some (.struct F)=>!P.stoodInHeld t&&!P.eqGuardType P.depth t&&rY P F.toList fs
 | .other,_=>true
 | _,_=>false
def ey {P:Xcn}{t:Nat}{k:TK}(h:iN P t k=true):qB P t k:=by
 unfold iN at h;split at h<;>simp only[qB]
 ·assumption
 ·rename_i hu;rw[hu,Xdq h]
 ·assumption
 ·exact⟨_,by assumption⟩
 ·exact⟨_,_,_,by assumption⟩
 ·rename_i hu;rw[hu,X29 h]
 ·rename_i hu;simp only[X26,Bj] at h;rw[hu,h.1,h.2]
 ·rename_i hu;simp only[X26,Bj] at h;rw[hu,h.1,h.2]
 ·rename_i fs F hu;simp only[X26,Xbj] at h;exact⟨h.1.1,h.1.2,F,hu,Qs h.2⟩
 simp at h
def mA (k:TK)(z:A):C:=match z,k.re with
 | .agg _,some false=>false
 | .agg _,_=>true
 | _,some true=>false
 | _,_=>true
def wu (P:Xcn)(t:Nat)(F:TI):C:=match P.info? t with
 | some i=>(match i.zero with
  | some z=>Xa0 i.size F.size&&Xa0 i.bytes F.bytes&&Xa0 F.zero.length F.size&&PT F.zero z.cells.toList&&iN P t F.kind&&mA F.kind z
  | none=>false)
 | none=>false
def lO {P:Xcn}{t:Nat}{K:TI}(h:wu P t K=true):sK P t K:=by
 unfold wu at h;split at h
 ·rename_i i M;split at h
  ·rename_i z Q;simp only[X26,Bj] at h;obtain⟨⟨⟨⟨⟨Y,Z⟩,U⟩,h4⟩,h5⟩,V⟩:=h;obtain⟨g1,g2⟩:=UU h4
   exact⟨⟨i,z,M,Y,Z,Q,by rw[<- Xaf,<- g1,U],U,λj hj v hv=>g2 j hj v (by simpa using hv)⟩,ey h5,λi' z' F H=>by
    rw[M] at F;obtain rfl:=X24 F;rw[Q] at H;obtain rfl:=X24 H;refine⟨λJ=>?_,λJ cs e=>?_⟩
    ·cases z<;>first|exact⟨_,rfl⟩|(simp[mA,J] at V)
    subst e;simp[mA,J] at V⟩
  simp at h
 simp at h
def kF (P:Xcn):TT->C
 | .qJ=>true
 | .node k v l r=>(v.kind.re.isNone || wu P k v)&&kF P l&&kF P r
def U3 {P:Xcn} :∀{T:TT},kF P T=true->py P T
 | .qJ,_=>λt=>.inl rfl
 | .node k v l r,h=>λt=>by
  simp only[kF,X26,Xcu] at h;simp only[TT.get];cases F:Xa0 t k with
  | true=>
   have:=X29 F;subst this;simp only;rcases h.1.1 with h|h
   ·exact .inl (by simpa using h)
   exact .inr (lO h)
  | false=>
   simp only;cases Xbv t k with
   | true=>exact U3 h.1.2 t
   | false=>exact U3 h.2 t
abbrev tL (wl:WL)(P:Xcn)(T:TT)(qL:Xcs->I C)(inl:Xcs->C)(ex np:Nat):Cx:=⟨T,np,A0 wl P,qL,wl.G,inl,XZ wl P,ex⟩
def lA {wl:WL}{P:Xcn}{T:TT}(J:py P T)(K:P.follows .mixedOrders=true)(qL:Xcs->I C)(inl:Xcs->C)(ex:Nat){f:Xcs}{fn:Func}{args:I AV}{gD:I OB}{H:AV}{F:I OB} (M : P.funcs[f]? = some fn) (Q : (fn.name == "runtime.NumGoroutine") = false) (h : Xv (tL wl P T qL inl ex gD.length) fn args gD fun r o => r = H ∧ o = F) : A0 wl P f args gD H F :=
 YI (cx:=tL wl P T qL inl ex gD.length) J ⟨rfl,λ_ _ _ _ _ h=>h,λ_ _ _ _ h=>h⟩ (OG J ⟨rfl,λ_ _ _ _ _ h=>h,λ_ _ _ _ h=>h⟩ K) M (by simpa using Q) h
def lL {wl:WL}{P:Xcn}{T:TT}(F:py P T)(H:P.follows .mixedOrders=true)(qL:Xcs->I C)(inl:Xcs->C)(np:Nat){f:Xcs}{fn:Func}{args:I AV}{ob:I (O OB)}{K:AV->I (O OB)->Prop} (J : P.funcs[f]? = some fn) (M : (fn.name == "runtime.NumGoroutine") = false) (h : jD (tL wl P T qL inl 0 np) fn args ob K) : XZ wl P f args ob K :=
 .inl <| Yd (cx:=tL wl P T qL inl 0 np) F ⟨rfl,λ_ _ _ _ _ h=>h,λ_ _ _ _ h=>h⟩ (OG F ⟨rfl,λ_ _ _ _ _ h=>h,λ_ _ _ _ h=>h⟩ H) J (by simpa using M) h
def r7 (x:Int):Prop:=-9223372036854775808<=x/\x<=9223372036854775807
def PL {a b:Int}(F:a=b)(H:r7 b):Xdk.wrap a=b:=by subst F;exact IntWalk.i64_in a H
def r7.of {x:Int}(h:-9223372036854775808<=x/\x<=9223372036854775807):r7 x:=h
end Go.AX
end
section
namespace Go.AX
open Go.RowKit
def tD (w:B):Sc:=λb o=>∃v,cellAt w b o=some v
def kY {P:Xcn}{f:Xcs}{args:I AV}{K:AV}{wl:WL}(h:A0 wl P f args [] K [])(w:B){gb:Nat->Prop}(hg:wl.gf gb w/\∀b,gb b->b<w.heap.size)(F:Array A)(V:F.size=args.length) (H :∀i (hi:i<args.length),gM (tD w) w (λ_=>none) (qt []) args[i] (F.getD i Xbn)/\gN (qt []) args[i]) : Calls P f F w λe w'=>(∃v S φ,e=.returned v/\gM S w' φ (qt []) K v)/\Below w.heap.size w w':=by
 have Q :∀r,qt [] r=none:=λr=>by simp[qt]
 refine (h.2 w (tD w) (λ_=>none) gb ⟨hg.1,hg.2,(by rintro b hb ⟨r,c,Y,_⟩;simp at Y),λb o _ Z=>by
  cases J:cellAt w b o with
  | none=>exact absurd J Z
  | some v=>exact⟨v,J⟩⟩ F V H (λ_ _=>rfl) ⟨λr o M=>by rw[Q] at M;simp at M,λr _ _ _ _ H=>absurd (Q r) H,λr o M=>by rw[Q] at M;simp at M,λ_ _ h=>h,λ_ _ _=>rfl,λb o hS=>?_,λ_ _ h _ _=>h,λ_ _ _=>rfl,Xa2 _,λr _ _ H=>absurd (Q r) H,⟨rfl,rfl,rfl,.inr (Xa2 _)⟩⟩).mono λe w' he=>?_
 ·obtain⟨v,J⟩:=hS;refine Xax λU=>?_;simp[cellAt,World.cell?,U] at J
 obtain⟨v,rfl,S',φ',m,_,J,_⟩:=he;refine⟨⟨v,S',φ',rfl,J⟩,m.os.1,m.os.2.2.1,m.os.2.1,m.sz,λk hk=>m.fr k hk ?_⟩;rintro⟨r,c,H,_⟩;exact absurd H (by simp)
def Z7 {P:Xcn}{f:Xcs}{args:I AV}{wl:WL}(h:A0 wl P f args [] (.b true) [])(w:B){gb:Nat->Prop}(hg:wl.gf gb w/\∀b,gb b->b<w.heap.size)(F:Array A)(H:F.size=args.length) (J :∀i (Q:i<args.length),gM (tD w) w (λ_=>none) (qt []) args[i] (F.getD i Xbn)/\gN (qt []) args[i]) : Calls P f F w λe w'=>e=.returned (.bool true)/\Below w.heap.size w w':=
 (kY h w hg F H J).mono λe w' ⟨⟨v,S,φ,he,K⟩,M⟩=>⟨by rw[he,K.bool],M⟩
end Go.AX
end
section
namespace Go.AX
open Go.RowKit Go.Deep Go.ChangeShapes Go.WideShapes
section
variable {H:Type} {enc:TypeId×A->H} {P:Program} {w:B}
def rI (w:B)(F:I D)(J:I A):Prop:=
 F.length=J.length/\(∀d∈F,d.isAgg=false)/\∀j (K:j<F.length) v,J[j]?=some v->qf (tD w) w F[j] v
def Wt (P:Xcn)(t:Nat)(d:DataW H):Prop:=(d.weights P t).all (·<=Xbc)=true
def rX {e:Nat} :∀{l:I (DataW H)} {d:DataW H},d∈l->∀n∈d.weights P e,n∈DataW.weightsAll P e l
 | x::l,d,F,n,J=>by
  simp only[DataW.weightsAll,X22];rcases Xp.1 F with rfl|F
  ·exact .inl J
  exact .inr (rX F n J)
def Wt.slice {t e:Nat}{el F:I (DataW H)}(J:P.underlying t=some (.slice e))(h:Wt P t (.slice el F)):(el.length+F.length)*P.bytesOf e<=Xbc/\∀d∈el,Wt P e d:=by have h:=Xm.1 h;simp only[DataW.weights,J,Xp,X22] at h;refine⟨by simpa using h _ (.inl rfl),λd K=>Xm.2 λn M=>h n (.inr (.inl (rX K n M)))⟩
def Wt.string {t:Nat}{b:I S}(h:Wt (H:=H) P t (.lit (.string b))):b.length<=Xbc:=by have h:=Xm.1 h;simp only[DataW.weights] at h;simpa using h _ (X13.2 rfl)
def Wt.agg {t:Nat}{F:Array Field}{J:I (DataW H)}(K:P.underlying t=some (.struct F))(h:Wt P t (.agg J)){i:Nat}{f:Field}{d:DataW H}(M:F[i]?=some f)(Q:J[i]?=some d):Wt P f.type d:=by have h:=Xm.1 h;simp only[DataW.weights,K] at h;exact Xm.2 λn U=>h n (DataW.weights_mem_each (ts:=F.toList.map (·.type)) (j:=i) (by simp[M]) Q n U)
structure uO (H:Type)(P:Program) where
 W:Nat->DataW H->Prop
 S:Nat->Nat->Prop
 B:Nat
 slice :∀{t e:Nat} {el sp:List (DataW H)},P.underlying t=some (.slice e)->W t (.slice el sp)->S e el.length/\∀d∈el,W e d
 string :∀{t:Nat} {b:List UInt8},W t (.lit (.string b))->b.length<=B
 agg :∀{t:Nat} {F:Array Field} {ds:List (DataW H)},P.underlying t=some (.struct F)->W t (.agg ds)->∀{i:Nat} {f:Field} {d:DataW H},F[i]?=some f->ds[i]?=some d->W f.type d
def ph (L:uO H P)(enc:TypeId×A->H)(w:B)(t:Nat){α:Type}(cells:α->I D)(ok:α->Prop):Prop:=
 ∀qb F x,DataW.trod enc P w 0 (λ_=>true) true qb t F=some x->L.W t x.1->∃a,ok a/\rI w (cells a) F
variable {L:uO H P}
def rI.one {d:D}{v:A}(K:d.isAgg=false)(h:qf (tD w) w d v):rI w [d] [v]:=
 ⟨rfl,λx F=>by simp only[X13] at F;rw[F];exact K,λj M u J=>by
  have:j=0:=by simpa using M
  subst this;simp only[List.getElem?_cons_zero,X23] at J;subst J
  exact h⟩
def rI.append {K es:I D}{Q U:I A}(h:rI w K Q)(k:rI w es U):rI w (K++es) (Q++U):=by
 obtain⟨V,Y,Z⟩:=h;obtain⟨k1,k2,k3⟩:=k;refine⟨by simp[V,k1],λd F=>?_,λj hj v J=>?_⟩
 ·rcases X22.1 F with F|F
  ·exact Y d F
  exact k2 d F
 rw[Xbp];split
 ·rename_i M;rw[Xa6 (by omega)] at J;exact Z j M v J
 rename_i a1;rw[Xab (by omega),<- V] at J;exact k3 (j-K.length) (by simp at hj;omega) v J
def ph.map {t:Nat}{α K:Type}{cells:α->I D}{ok:α->Prop}(h:ph L enc w t cells ok){F:K->I D}{J:K->Prop}(g:α->K)(M :∀a,F (g a)=cells a)(Q :∀a,ok a->J (g a)):ph L enc w t F J:=by intro qb U x V Y;obtain⟨a,Z,h2⟩:=h qb U x V Y;exact⟨g a,Q a Z,by rw[M];exact h2⟩
def PU {t:Nat}{k:IntKind}(F:P.underlying t=some (.int k)):ph L enc w t (λn:Int=>[.val (.int k n)]) (λn=>(Lit.int k n).wf=true):=by intro qb K x h _;obtain⟨n,rfl,_,J⟩:=DataW.trod_int F h;exact⟨n,J,rI.one rfl (.val _ rfl)⟩
def tp {t:Nat}(F:P.underlying t=some .bool):ph L enc w t (λb:C=>[.val (.bool b)]) (λ_=>True):=by intro qb J x h _;obtain⟨b,rfl,_⟩:=DataW.trod_bool F h;exact⟨b,trivial,rI.one rfl (.val _ rfl)⟩
def sP {t:Nat}(F:P.underlying t=some .string):ph L enc w t (λs:T=>[.val (.string s)]) (λs=>s.size<=Xb6/\s.size<=L.B):=by intro qb M x h J;obtain⟨s,rfl,rfl,K⟩:=DataW.trod_string F h;have:=L.string J;rw[Xaf] at this;exact⟨s,⟨K,this⟩,rI.one rfl (.val _ rfl)⟩
def qP {t e sz:Nat}{α:Type}{el:α->D}{ok:α->Prop}{sok:Nat->Prop}(ht:P.underlying t=some (.slice e))(qE:P.cellsOf e=sz)(a1:0<sz)(a6:sok 0)(a7 :∀n,L.S e n->sok n)(h:ph L enc w e (λa=>(el a).cells) ok) : ph L enc w t (λl:I α=>[.qY sz (l.map el)]) (λl=>l.length<=Xb6/\sok l.length/\∀a∈l,ok a):=by
 intro qb cs x hx hw;rcases open_slice ht hx with ⟨rfl,_⟩|⟨a,len,af,m,n,D,Pl,rfl,_,a8,hm,Y,rfl,aa⟩
 ·exact⟨[],⟨by simp,a6,by simp⟩,rI.one rfl (.ri _ _ _)⟩
 obtain⟨Z,ag⟩:=L.slice ht hw;have Z:sok len:=a7 _ (by simpa using Z);have Y:m=af:=Y.trans (Xl rfl);subst Y;rw[qE] at aa;have one :∀i,i<len->∃q:α×I A,ok q.1/\rI w (el q.1).cells q.2/\w.cells? 0 (a.add (i*sz)) sz=some q.2:=by intro i F;obtain⟨ab,h1,Q⟩:=aa i (by omega);obtain⟨b,h3,h4⟩:=h n ab _ Q (ag _ (Xaz.2 ⟨i,Xcr.2 F,rfl⟩));exact⟨(b,ab),h3,h4,h1⟩
 by_cases h0:len=0
 ·subst h0;exact⟨[],⟨by simp,a6,by simp⟩,rI.one rfl (.ri _ _ _)⟩
 obtain⟨q0,_⟩:=one 0 (by omega);haveI:Inhabited (α×I A):=⟨q0⟩;obtain⟨f,hf⟩:=choose_lt one;have J:a.spot=none:=by
  obtain⟨_,_,h3⟩:=hf 0 (by omega);obtain⟨_,hl,hc⟩:=World.cells?_some h3;have:=hc 0 a1;rw[Xdg] at this;have e:(a.add 0).add 0=a:=by simp[Addr.add]
  rw[e] at this;have U:0<(f 0).2.length:=by omega
  rw[X14 U] at this;unfold World.cell? at this;split at this
  ·cases hs:a.spot with
   | none=>rfl
   | some s=>simp[hs] at this
  simp at this
 obtain⟨b,o,sp⟩:=a;simp only at J;subst J;have ae :∀i j,((⟨b,o,none⟩:Addr).add i).add j=⟨b,o+i+j,none⟩:=by intro i j;rw[Addr.qV,Addr.qV]
 have K :∀i j,i<len->j<sz->∃v,(f i).2[j]?=some v/\cellAt w b (o+i*sz+j)=some v:=by
  intro i j F V;obtain⟨_,_,h3⟩:=hf i F;obtain⟨_,hl,hc⟩:=World.cells?_some h3;have:=hc j V;rw[ae] at this;have U:j<(f i).2.length:=by omega
  exact⟨(f i).2[j],X14 U,by rw[X14 U] at this;exact this⟩
 have M :∀i,i<len->(el (f i).1).cells.length=sz:=by intro i F;obtain⟨_,Q,h3⟩:=hf i F;obtain⟨_,hl,_⟩:=World.cells?_some h3;rw[Q.1,hl]
 refine⟨(Xb2 len).map λi=>(f i).1,⟨by simp;omega,by simpa using Z,λa ha=>?_⟩,rI.one rfl ?_⟩
 ·obtain⟨i,F,rfl⟩:=Xaz.1 ha;exact (hf i (Xcr.1 F)).1
 have hL:(((Xb2 len).map λi=>(f i).1).map el).length=len:=by simp
 have:=qf.qY (S:=tD w) (w:=w) sz (((Xb2 len).map λi=>(f i).1).map el) b o m (λi j=>((f i).2[j]?).getD Xbn) (by rw[hL];exact Xak a8 hm) (by rw[hL];exact a8) (λi F=>?_) (λi j F V=>?_) (λi F j V=>?_) (λi F j V=>?_)
 ·rw[hL] at this;exact this
 ·rw[hL] at F;simpa using M i F
 ·rw[hL] at F;obtain⟨v,h1,Q⟩:=K i j F V;exact⟨⟨v,Q⟩,by rw[Q,h1];rfl⟩
 ·rw[hL] at F;obtain⟨_,Q,_⟩:=hf i F;exact Q.2.1 _ (by simp)
 rw[hL] at F;obtain⟨_,Q,_⟩:=hf i F;simp only[Xam,Xcw] at V⊢;have ah:j<sz:=by rw[M i F] at V;exact V
 obtain⟨v,h1,_⟩:=K i j F ah;rw[h1];exact Q.2.2 j V v h1
def fJ (L:uO H P)(enc:TypeId×A->H)(w:B):I (Nat×Nat)->I A->Prop
 | [],F=>F=[]
 | (t,sz)::fs,F=>sz<=F.length/\(∃qb x,DataW.trod enc P w 0 (λ_=>true) true qb t (F.take sz)=some x/\L.W t x.1)/\fJ L enc w fs (F.drop sz)
def Us (L:uO H P)(enc:TypeId×A->H)(w:B)(fs:I (Nat×Nat)){α:Type}(cells:α->I D)(ok:α->Prop):Prop:=
 ∀F,fJ L enc w fs F->∃a,ok a/\rI w (cells a) F
def qN:Us L enc w [] (λ_:Unit=>[]) (λ_=>True):=by intro K h;cases h;exact⟨(),trivial,rfl,λd F=>by simp at F,λj J=>by simp at J⟩
def iX {t sz:Nat}{fs:I (Nat×Nat)}{α F:Type}{J:α->I D}{K:α->Prop}{M:F->I D}{ob:F->Prop}(Q:ph L enc w t J K)(U:Us L enc w fs M ob) : Us L enc w ((t,sz)::fs) (λx:α×F=>J x.1++M x.2) (λx=>K x.1/\ob x.2):=by rintro cs ⟨_,⟨qb,x,V,Y⟩,Z⟩;obtain⟨a,h1,h2⟩:=Q qb _ _ V Y;obtain⟨b,h3,h4⟩:=U _ Z;exact⟨(a,b),⟨h1,h3⟩,by have:=h2.append h4;rwa [List.take_append_drop] at this⟩
def Lc (P:Xcn):Nat->I Field->I (Nat×Nat)->Nat->C
 | o,[],[],n=>Xa0 o n
 | o,f::F,(t,sz)::fs,n=>Xa0 f.offset o&&Xa0 f.type t&&Xa0 (P.cellsOf f.type) sz&&Xdl (o+sz) n&&Lc P (o+sz) F fs n
 | _,_,_,_=>false
def ZD {n:Nat}{J:I A}(Y:J.length=n) :∀(F:I Field) (fs:I (Nat×Nat)) (o:Nat),Lc P o F fs n=true-> (∀f∈F,∃qb x,DataW.trod enc P w 0 (λ_=>true) true qb f.type ((J.drop f.offset).take (P.cellsOf f.type))=some x/\L.W f.type x.1)->fJ L enc w fs (J.drop o)
 | [],[],o,h,_=>by have:=X29 h;simp only[fJ];exact List.drop_eq_nil_of_le (by omega)
 | f::F,(t,sz)::fs,o,h,K=>by simp only[Lc,X26,Bj] at h;obtain⟨⟨⟨⟨Z,M⟩,h3⟩,Q⟩,h5⟩:=h;have Q:=X28 Q;obtain⟨qb,x,U,V⟩:=K f (by simp);rw[Z,h3,M] at U;rw[M] at V;refine⟨by simp;omega,⟨qb,x,U,V⟩,?_⟩;rw[List.drop_drop];exact ZD Y F fs (o+sz) h5 λg hg=>K g (by simp[hg])
 | [],_::_,_,h,_=>by simp[Lc] at h
 | _::_,[],_,h,_=>by simp[Lc] at h
def qy {t:Nat}{F:Array Field}{fs:I (Nat×Nat)}{α:Type}{cells:α->I D}{ok:α->Prop}(M:P.underlying t=some (.struct F))(V:Lc P 0 F.toList fs (P.cellsOf t)=true)(h:Us L enc w fs cells ok) : ph L enc w t cells ok:=by intro qb Q x Y Z;obtain⟨xs,n,_,rfl,hl,U,hf⟩:=DataW.trod_struct M Y;refine h Q ?_;refine (ZD (enc:=enc) (w:=w) hl F.toList fs 0 V λf J=>?_:fJ L enc w fs (Q.drop 0));obtain⟨i,K,rfl⟩:=Wr J;simp only[Xaf] at K;have:=hf i F[i] (by simp[K]);rw[X14 (by omega)] at this;exact⟨n,_,by simpa using this,by simpa using L.agg M Z (i:=i) (f:=F[i]) (by simp[K]) (d:=xs[i].1) (by rw[Xd8,X14 (by omega)];rfl)⟩
def rI.val {d:D}{v:A}(h:rI w [d] [v]):qf (tD w) w d v:=h.2.2 0 (by simp) v (by simp)
def rI.agg {J:I D}{F:Array A}(h:rI w J F.toList):qf (tD w) w (.agg J) (.agg F):=by
 obtain⟨K,Q,U⟩:=h;refine .agg J F (λi=>F.getD i Xbn) (by simpa using K.symm) (λi M=>?_) (λi M=>Q _ (by simp)) λi M=>U i M _ ?_
 ·have:i<F.size:=by have:=K;simp at this;omega
  simp[this]
 have:i<F.size:=by have:=K;simp at this;omega
 simp[this]
def dC {t:Nat}{α:Type}{cells:α->I D}{ok:α->Prop}(h:ph L enc w t cells ok){F:Array A}{d:DataW H}{p:I MemPlace} (J:DataW.Trod enc P w 0 (λ_=>true) true t (.agg F) d p) (K:L.W t d) :∃x,ok x/\qf (tD w) w (.agg (cells x)) (.agg F):=by obtain⟨qb,M⟩:=J;obtain⟨x,Q,U⟩:=h qb _ _ M K;exact⟨x,Q,rI.agg (by simpa[Xdj] using U)⟩
end
end Go.AX
end
