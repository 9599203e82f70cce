/-
  Texts of one proof, packed.
-/
import Derived.Test.YtgbncopbacigiaaGreatDoorD12
import Derived.Below
import Derived.Deep.Slices
import Derived.IntWalk
import Derived.SizedLaws
set_option linter.all false
set_option maxRecDepth 100000
set_option maxHeartbeats 4000000
open List renaming length_map→X10,length_append→X11,length_cons→X12,length_nil→X13,mem_singleton→X14,getElem?_eq_getElem→X15,length_drop→X17,length_take→X18,length_replicate→X20,length_set→X21,mem_append→X23
open Option.some renaming injEq→X24,inj→X25
open Prod.mk renaming injEq→X26
open Bool renaming and_eq_true→X27
open Nat renaming le_of_ble_eq_true→X29,eq_of_beq_eq_true→X30,mul_le_mul_right→X31
open List renaming range→Xb4
open Go renaming reachBytes→Xak,maxLen→Xbl,undef→Xc3,Program→Xcz,FuncId→Xcx
open Nat renaming beq→Xa6,blt→Xbr,ble→Xdi
open Array renaming getD→Xd6
open Go.Region renaming ready→Xdh
open Go.IntKind renaming i64→Xdc
section
namespace Go.AX
def VU :∀(l:O z) (done:O z) (acc:O (O Nat)),acc.length=done.length-> (∀p (hp:p<done.length),(Bl done[p]).all (λj=>Xbr j p)=true->∀k∈acc.getD (acc.length-1-p) [],k∈Bl done[p] \/∃q∈Bl done[p],k∈acc.getD (acc.length-1-q) [])-> (Hw l acc).length=(done++l).length/\∀p (hp:p<(done++l).length),(Bl (done++l)[p]).all (λj=>Xbr j p)=true->∀k∈(Hw l acc).getD ((Hw l acc).length-1-p) [],k∈Bl (done++l)[p] \/∃q∈Bl (done++l)[p],k∈(Hw l acc).getD ((Hw l acc).length-1-q) []
 | [],done,acc,hlen,h=>by simpa[Hw,hlen] using h
 | o::l,done,acc,hlen,h=>by
  simp only[Hw];have:=VU l (done++[o]) (((Bl o).flatMap λj=>j::acc.getD (acc.length-1-j) [])::acc) (by simp[hlen]) ?_
  ·simpa using this
  intro p hp V k F;simp only[X11,X12,X13,Xan] at hp;have H :∀q,q<acc.length->(((Bl o).flatMap λj=>j::acc.getD (acc.length-1-j) [])::acc).getD ((((Bl o).flatMap λj=>j::acc.getD (acc.length-1-j) [])::acc).length-1-q) []=acc.getD (acc.length-1-q) []:=by
   intro q Q;have:(((Bl o).flatMap λj=>j::acc.getD (acc.length-1-j) [])::acc).length-1-q=(acc.length-1-q)+1:=by simp only[X12];omega
   rw[this,List.getD_cons_succ]
  rcases Nat.lt_or_ge p done.length with J|a1
  ·rw[H p (by omega)] at F;have K:(Bl done[p]).all (λj=>Xbr j p)=true:=by simpa[Xa2 J] using V
   rw[Xa2 J];rcases h p J K k F with U|⟨q,U,h2⟩
   ·exact .inl U
   refine .inr ⟨q,U,?_⟩;have:=Wo.1 K q U;have Y:q<p:=by simpa using this
   rw[H q (by omega)];exact h2
  have Z:p=done.length:=by omega
  subst Z;have M:(done++[o])[done.length]'(by simp)=o:=by simp
  rw[M] at V⊢;have:(((Bl o).flatMap λj=>j::acc.getD (acc.length-1-j) [])::acc).length-1-done.length=0:=by simp only[X12];omega
  rw[this,List.getD_cons_zero] at F;obtain⟨q,Q,F⟩:=Xc5.1 F;rcases Wp.1 F with rfl|F
  ·exact .inl Q
  refine .inr ⟨q,Q,?_⟩;have:=Wo.1 V q Q;have Y:q<done.length:=by simpa using this
  rw[H q (by omega)];exact F
def Ix {F:Array z}{p:Nat}{o:z}(Q:F[p]?=some o)(U:(Bl o).all (λj=>Xbr j p)=true){k:Nat}(J:k∈F7 F p) : k∈Bl o \/∃q∈Bl o,k∈F7 F q:=by obtain⟨K,M⟩:=VU F.toList [] [] rfl (λp hp=>by simp at hp);obtain⟨hp,H⟩:=Xby.1 Q;simp only[Xax,Xal] at K M;have:=M p (by simpa using hp);simp only[Array.getElem_toList,H,K] at this;unfold F7 at J⊢;exact this U k J
def S7 {F:Array z}{f:Nat->O Nat×O Nat}{i:Nat}{K wr:O Nat} :∀(n j:Nat),EF.tH F i K wr j ((List.range' j n).map f)=true-> ∀k,j<=k->k<j+n->i∈F7 F k\/((∀r∈wr,r∉(f k).1)/\∀r∈K,r∉(f k).2)
 | 0,j,_,k,M,Q=>by omega
 | n+1,j,h,k,M,Q=>by
  simp only[List.range'_succ,Xam,EF.tH] at h;rw[show f j=((f j).1,(f j).2) from rfl] at h;simp only[X27,Xco] at h;rcases Nat.eq_or_lt_of_le M with rfl|U
  ·rcases h.1 with H|H
   ·exact .inl (by simpa using H)
   refine .inr ⟨λr J=>?_,λr J=>?_⟩
   ·have:=Wo.1 H.1 r J;simpa using this
   have:=Wo.1 H.2 r J;simpa using this
  exact S7 n (j+1) h.2 k (by omega) (by omega)
def KC {F:Array z}{f:Nat->O Nat×O Nat} :∀(n i:Nat),EF F i ((List.range' i n).map f)=true-> ∀j k,i<=j->j<k->k<i+n->j∈F7 F k\/((∀r∈(f j).2,r∉(f k).1)/\∀r∈(f j).1,r∉(f k).2)
 | 0,i,_,j,k,H,J,K=>by omega
 | n+1,i,h,j,k,H,J,K=>by
  simp only[List.range'_succ,Xam] at h;rw[show f i=((f i).1,(f i).2) from rfl] at h;simp only[EF,X27] at h;rcases Nat.eq_or_lt_of_le H with rfl|M
  ·exact S7 n (i+1) h.1 k (by omega) (by omega)
  exact KC n (i+1) h.2 j k (by omega) J (by omega)
def Nn {cx:Cx}{F:Array z} :∀(os:O z) (i:Nat) (H:O (O Nat×O Nat)) {st:r9} {K:O (O Nat×O Nat)->r9->Prop}, (∀k (J:k<os.length),F[i+k]?=some os[k])->RJ cx F os H st K-> ∃(es:O (O Nat×O Nat)) (fin:r9),es.length=os.length/\K (H.reverse++es) fin/\∀f:Nat->O Nat×O Nat,(∀k (J:k<es.length),f (i+k)=es[k])->vM cx F f fin (List.range' i os.length) st
 | [],i,H,st,K,_,h=>⟨[],st,rfl,by simpa[RJ] using h,λf _=>rfl⟩
 | o::os,i,H,st,K,Q,h=>by
  have h:LI cx F o st λM=>RJ cx F os ((P4 cx.np o st.tm,eU cx.np o st.tm M.tm)::H) M K:=by obtain⟨tm,ob⟩:=st;exact h
  obtain⟨v,w,h,V⟩:=kg h
  obtain⟨es,fin,Y,Z,h3⟩:=Nn os (i+1) _ (λk J=>by
   have:=Q (k+1) (by simpa using J)
   rw[show i+1+k=i+(k+1) by omega,this];rfl) h
  refine⟨(P4 cx.np o st.tm,eU cx.np o st.tm (ua o.dst v w st).tm)::es,fin,by simp[Y],by simpa using Z,λf U=>?_⟩;simp only[X12,List.range'_succ];refine⟨o,v,w,Q 0 (by simp),?_,h3 f λk J=>?_⟩
  ·have:=U 0 (by simp);simp only[Xch,Xb5] at this;rw[this];exact V
  have:=U (k+1) (by simpa using J);rw[show i+1+k=i+(k+1) by omega,this];rfl
def C6 {F:Array z}(h:Ef F=true){i:Nat}{o:z}(K:F[i]?=some o) : (Bl o).all (λj=>Xbr j i)=true/\∀j,j<i->j∈F7 F i \/∀q,F[j]?=some q->q.apart F o=true:=by
 obtain⟨M,_⟩:=Xby.1 K;have J:=Wo.1 h i (Xc4.2 M);simp only[K,X27] at J;refine⟨J.1.1,λj Q=>?_⟩;have H:=Wo.1 J.2 j (Xc4.2 Q);simp only[Xco] at H;rcases H with H|H
 ·exact .inl (by simpa using H)
 refine .inr λq U=>?_;simpa[U] using H
def I3 {H:Array z}(M:Ef H=true){listed:Nat->Prop}(F :∀i o,H[i]?=some o->listed i->∀j∈Bl o,listed j) : ∀(n i:Nat),i<n->i<H.size->listed i->∀k∈F7 H i,listed k
 | 0,i,h,_,_=>by omega
 | n+1,i,h,V,Q=>by
  intro k Y;have J:H[i]?=some H[i]:=by simp[V]
  obtain⟨U,_⟩:=C6 M J;rcases Ix J U Y with K|⟨q,K,Z⟩
  ·exact F i _ J Q k K
  have:=Wo.1 U q K;have hq:q<i:=by simpa using this
  exact I3 M F n q (by omega) (by omega) (F i _ J Q q K) k Z
def IP {F:Array z}{listed:Array I}{i:Nat}(h:i∈Xdh .any F listed) : i<F.size/\listed.getD i true=false/\∃o,F[i]?=some o/\∀j∈Bl o,listed.getD j false=true:=by
 unfold Xdh at h;rw[Xah,Xc4] at h;obtain⟨K,h⟩:=h;have M:F[i]?=some F[i]:=by simp[K]
 simp only[X27,M,Xbt,Xao] at h;refine⟨K,by simpa using h.1,_,M,λj Q=>?_⟩;unfold Bl at Q;obtain⟨e,U,rfl⟩:=Xa0.1 Q;obtain⟨H,J⟩:=Xah.1 U;have:=Array.all_eq_true'.1 h.2 e (by simpa using H);simpa[J] using this
def mem_ready {F:Array z}{listed:Array I}{i:Nat}{o:z}(H:F[i]?=some o)(J:listed.getD i true=false)(hp :∀j∈Bl o,listed.getD j false=true):i∈Xdh .any F listed:=by
 obtain⟨K,_⟩:=Xby.1 H;unfold Xdh;rw[Xah,Xc4];refine⟨K,?_⟩;simp only[X27,H,Xbt,Xao];refine⟨by simp[J],Array.all_eq_true'.2 λe M=>?_⟩;cases Q:Region.binds .any e with
 | false=>rfl
 | true=>simp only[Bool.not_true,Bool.false_or];exact hp e.on (Xa0.2 ⟨e,Xah.2 ⟨by simpa using M,Q⟩,rfl⟩)
section
variable {P:Program} {E:Env} {tr:Trk}
def Sl {cx:Cx}(hT:rc P cx.T)(hC:Oi E.wl P cx){F:Array z}{f:Nat->O Nat×O Nat}{fin:r9}{Q:Exit->Act->B->Prop} (hd:Ef F=true) (hc :∀j k,j<k->k<F.size->j∈F7 F k\/((∀r∈(f j).2,r∉(f k).1)/\∀r∈(f j).1,r∉(f k).2)) (hQ :∀a w,RR E tr fin a w->Q .normal a w) :∀(rp:Nat) (L:O Nat) (listed:Array I) {st:r9} {a:Act} {w:B}, L.length=rp->listed.size=F.size->L.Pairwise (·<·)->(∀k,k∈L↔k<F.size/\listed.getD k true=false)->(∀i o,F[i]?=some o->listed.getD i false=true->∀j∈Bl o,listed.getD j false=true)-> vM cx F f fin L st->RR E tr st a w->wpAny P .any F Q rp listed a w
 | 0,L,listed,st,a,w,hL,s7,hp,hm,H,J,hR=>by
  have:L=[]:=List.length_eq_zero_iff.1 hL;subst this;refine⟨?_,hQ _ _ (by rw[<- (show st=fin from J)];exact hR)⟩;cases hr:Xdh .any F listed with
  | nil=>rfl
  | cons i l=>obtain⟨V,h2,_⟩:=IP (i:=i) (by rw[hr];simp);exact absurd ((hm i).2 ⟨V,h2⟩) (by simp)
 | rp+1,L,listed,st,a,w,hL,s7,hp,hm,H,J,hR=>by
  have gd :∀k,k<F.size->listed.getD k true=listed.getD k false:=λk U=>by simp[Xd6,s7,U]
  refine⟨λhr=>?_,λi hi=>?_⟩
  ·exfalso;cases L with
   | nil=>simp at hL
   | cons i l=>
    obtain⟨V,h2⟩:=(hm i).1 (by simp);have M:F[i]?=some F[i]:=by simp[V]
    have:i∈Xdh .any F listed:=mem_ready M h2 λj Y=>by
     obtain⟨hb,_⟩:=C6 hd M;have:=Wo.1 hb j Y;have Z:j<i:=by simpa using this
     cases hx:listed.getD j false with
     | true=>rfl
     | false=>
      have ai:=(hm j).2 ⟨by omega,by rw[gd j (by omega)];exact hx⟩;rcases Wp.1 ai with e|e
      ·omega
      have:=(Wu.1 hp).1 j e;omega
    rw[hr] at this;simp at this
  obtain⟨V,h2,o,M,h3⟩:=IP hi;have aj:=(hm i).2 ⟨V,h2⟩;obtain⟨pre,post,rfl⟩:=List.append_of_mem aj;obtain⟨ak,ab,a1⟩:=Xb0.1 hp;have a6 :∀j∈pre,rI F f j i:=by
   intro j Y;have Z:j<i:=a1 j Y i (by simp);have ae:¬ listed.getD j false=true:=by obtain⟨q1,q2⟩:=(hm j).1 (by simp[Y]);rw[gd j q1] at q2;rw[q2];simp
   have af:j∉F7 F i:=by
    intro al;obtain⟨hb,_⟩:=C6 hd M;rcases Ix M hb al with e|⟨q,e1,e2⟩
    ·exact ae (h3 j e)
    have:=Wo.1 hb q e1;have hq:q<i:=by simpa using this
    exact ae (I3 hd (listed:=λk=>listed.getD k false=true) H (q+1) q (by omega) (by omega) (h3 q e1) j e2)
   refine⟨λx y hx hy=>?_,?_⟩
   ·rw[M] at hy;cases hy;exact ((C6 hd M).2 j Z).resolve_left af x hx
   exact (hc j i Z V).resolve_left af
  obtain⟨o',v,wr,ag,hs,a7⟩:=Xv pre a6 J;rw[M] at ag;cases ag;have a8:LI cx F o st λK=>vM cx F f fin (pre++post) K:=hs.go st (λ_ _=>rfl) (λ_ _=>rfl) _ a7;have aa :∀K a' w',vM cx F f fin (pre++post) K->RR E tr K a' w'->wpAny P .any F Q rp (listed.setIfInBounds i true) a' w':=by
   intro K a' w' an ao;have gs :∀k b,(listed.setIfInBounds i true).getD k b=if k=i then true else listed.getD k b:=by
    intro k b;by_cases U:k=i
    ·subst U;simp[Xd6,s7,V]
    have:¬ i=k:=λe=>U e.symm;simp only[U,Xd0,Xd6,Array.size_setIfInBounds];split
    ·rename_i ap;exact Array.getElem_setIfInBounds_ne ap this
    rfl
   refine Sl hT hC hd hc hQ rp (pre++post) (listed.setIfInBounds i true) (by simp at hL⊢;omega) (by simpa using s7) ?_ (λk=>?_) ?_ an ao
   ·exact Xb0.2 ⟨ak,(Wu.1 ab).2,λx hx y hy=>a1 x hx y (by simp[hy])⟩
   ·rw[gs];have:=hm k;by_cases U:k=i
    ·subst U;simp only[Xdl];constructor
     ·intro hh;rcases X23.1 hh with hh|hh
      ·exact absurd (a1 k hh k (by simp)) (by omega)
      exact absurd ((Wu.1 ab).1 k hh) (by omega)
     intro hh;simp at hh
    simp only[U,Xd0];rw[<- this];simp[U]
   intro j q hq hl p ah;rw[gs] at hl⊢;split
   ·rfl
   by_cases Y:j=i
   ·subst Y;rw[M] at hq;cases hq;exact h3 p ah
   simp only[Y,Xd0] at hl;exact H j q hq hl p ah
  unfold wpOp;simp only[M];have:=Qs (Q:=Q) hT hC a8 hR (next:=wpAny P .any F Q rp (listed.setIfInBounds i true)) aa;split
  ·rename_i hw;rw[Xy hw] at this;exact .inl this
  rename_i hw;rw[Xj hw] at this;exact this
def Py {cx:Cx}(hT:rc P cx.T)(hC:Oi E.wl P cx){F:Array z}{f:Nat->O Nat×O Nat}{fin:r9}{Q:Exit->Act->B->Prop}{t:Nat}(ht:t+1=F.size)(a1 :∀j,j<t->j∈F7 F t) (hd:Ef F=true) (hc :∀j k,j<k->k<t->j∈F7 F k\/((∀r∈(f j).2,r∉(f k).1)/\∀r∈(f j).1,r∉(f k).2)) (hQ :∀a w,RR E tr fin a w->wpOp P F Q t (Q .normal) a w) :∀(rp:Nat) (L:O Nat) (listed:Array I) {st:r9} {a:Act} {w:B}, L.length=rp->listed.size=F.size->L.Pairwise (·<·)->listed.getD t true=false->(∀k,k∈L↔k<t/\listed.getD k true=false)->(∀i o,F[i]?=some o->listed.getD i false=true->∀j∈Bl o,listed.getD j false=true)-> vM cx F f fin L st->RR E tr st a w->wpAny P .any F Q (rp+1) listed a w
 | 0,L,listed,st,a,w,hL,s7,hp,a6,hm,H,U,hR=>by
  have:L=[]:=List.length_eq_zero_iff.1 hL;subst this;have gd :∀k,k<F.size->listed.getD k true=listed.getD k false:=λk K=>by simp[Xd6,s7,K]
  have V :∀k,k<t->listed.getD k true=true:=by
   intro k K;cases hx:listed.getD k true with
   | true=>rfl
   | false=>exact absurd ((hm k).2 ⟨K,hx⟩) (by simp)
  have ah:F[t]?=some (F[t]'(by omega)):=by simp[show t<F.size by omega]
  have ap :∀j∈Bl (F[t]'(by omega)),listed.getD j false=true:=by
   intro j hj;obtain⟨hb,_⟩:=C6 hd ah;have:=Wo.1 hb j hj;have Y:j<t:=by simpa using this
   rw[<- gd j (by omega)];exact V j Y
  have ai:t∈Xdh .any F listed:=mem_ready ah a6 ap;refine⟨λhr=>?_,λi hi=>?_⟩
  ·rw[hr] at ai;simp at ai
  obtain⟨h1,h2,_⟩:=IP hi;have a7:i=t:=by refine Nat.le_antisymm (by omega) (Nat.le_of_not_lt λJ=>?_);rw[V i J] at h2;simp at h2
  subst a7;refine wpOp_mono (λa' w' hq=>⟨?_,hq⟩) (hQ a w (by rw[<- (show st=fin from U)];exact hR));cases hr:Xdh .any F (listed.setIfInBounds i true) with
  | nil=>rfl
  | cons k l=>
   exfalso;obtain⟨h3,h4,_⟩:=IP (i:=k) (by rw[hr];simp);by_cases K:k=i
   ·subst K;simp[Xd6,s7,h1] at h4
   have h5:(listed.setIfInBounds i true).getD k true=listed.getD k true:=by
    have:¬ i=k:=λe=>K e.symm;simp only[Xd6,Array.size_setIfInBounds];split
    ·rename_i J;exact Array.getElem_setIfInBounds_ne J this
    rfl
   rw[h5,V k (by omega)] at h4;simp at h4
 | rp+1,L,listed,st,a,w,hL,s7,hp,a6,hm,H,U,hR=>by
  have gd :∀k,k<F.size->listed.getD k true=listed.getD k false:=λk K=>by simp[Xd6,s7,K]
  refine⟨λhr=>?_,λi hi=>?_⟩
  ·exfalso;cases L with
   | nil=>simp at hL
   | cons i l=>
    obtain⟨az,h2⟩:=(hm i).1 (by simp);have h1:i<F.size:=by omega
    have M:F[i]?=some F[i]:=by simp[h1]
    have:i∈Xdh .any F listed:=mem_ready M h2 λj hj=>by
     obtain⟨hb,_⟩:=C6 hd M;have:=Wo.1 hb j hj;have Y:j<i:=by simpa using this
     cases hx:listed.getD j false with
     | true=>rfl
     | false=>
      have aq:=(hm j).2 ⟨by omega,by rw[gd j (by omega)];exact hx⟩;rcases Wp.1 aq with e|e
      ·omega
      have:=(Wu.1 hp).1 j e;omega
    rw[hr] at this;simp at this
  obtain⟨h1,h2,o,M,h3⟩:=IP hi;have a7:i≠t:=by
   intro e;subst e;cases L with
   | nil=>simp at hL
   | cons j l=>
    obtain⟨q1,q2⟩:=(hm j).1 (by simp);have a8:=a1 j q1;obtain⟨hb,_⟩:=C6 hd M;rw[gd j (by omega)] at q2;rcases Ix M hb a8 with e|⟨q,e1,e2⟩
    ·rw[h3 j e] at q2;simp at q2
    have:=Wo.1 hb q e1;have hq:q<i:=by simpa using this
    have:=I3 hd (listed:=λk=>listed.getD k false=true) H (q+1) q (by omega) (by omega) (h3 q e1) j e2;rw[this] at q2;simp at q2
  have J:i<t:=by omega
  have ar:=(hm i).2 ⟨J,h2⟩;obtain⟨pre,post,rfl⟩:=List.append_of_mem ar;obtain⟨au,aj,aa⟩:=Xb0.1 hp;have ab :∀j∈pre,rI F f j i:=by
   intro j hj;have Y:j<i:=aa j hj i (by simp);have ak:¬ listed.getD j false=true:=by obtain⟨q1,q2⟩:=(hm j).1 (by simp[hj]);rw[gd j (by omega)] at q2;rw[q2];simp
   have al:j∉F7 F i:=by
    intro a8;obtain⟨hb,_⟩:=C6 hd M;rcases Ix M hb a8 with e|⟨q,e1,e2⟩
    ·exact ak (h3 j e)
    have:=Wo.1 hb q e1;have hq:q<i:=by simpa using this
    exact ak (I3 hd (listed:=λk=>listed.getD k false=true) H (q+1) q (by omega) (by omega) (h3 q e1) j e2)
   refine⟨λx y hx hy=>?_,?_⟩
   ·rw[M] at hy;cases hy;exact ((C6 hd M).2 j Y).resolve_left al x hx
   exact (hc j i Y J).resolve_left al
  obtain⟨o',v,wr,an,hs,ae⟩:=Xv pre ab U;rw[M] at an;cases an;have af:LI cx F o st λZ=>vM cx F f fin (pre++post) Z:=hs.go st (λ_ _=>rfl) (λ_ _=>rfl) _ ae;have ag :∀Z a' w',vM cx F f fin (pre++post) Z->RR E tr Z a' w'->wpAny P .any F Q (rp+1) (listed.setIfInBounds i true) a' w':=by
   intro Z a' w' ax ay;have gs :∀k b,(listed.setIfInBounds i true).getD k b=if k=i then true else listed.getD k b:=by
    intro k b;by_cases K:k=i
    ·subst K;simp[Xd6,s7,h1]
    have:¬ i=k:=λe=>K e.symm;simp only[K,Xd0,Xd6,Array.size_setIfInBounds];split
    ·rename_i J;exact Array.getElem_setIfInBounds_ne J this
    rfl
   refine Py hT hC ht a1 hd hc hQ rp (pre++post) (listed.setIfInBounds i true) (by simp at hL⊢;omega) (by simpa using s7) ?_ (by rw[gs,Xj (Ne.symm a7)];exact a6) (λk=>?_) ?_ ax ay
   ·exact Xb0.2 ⟨au,(Wu.1 aj).2,λx hx y hy=>aa x hx y (by simp[hy])⟩
   ·rw[gs];have:=hm k;by_cases K:k=i
    ·subst K;simp only[Xdl];constructor
     ·intro hh;rcases X23.1 hh with hh|hh
      ·exact absurd (aa k hh k (by simp)) (by omega)
      exact absurd ((Wu.1 aj).1 k hh) (by omega)
     intro hh;simp at hh
    simp only[K,Xd0];rw[<- this];simp[K]
   intro j q hq hl p ao;rw[gs] at hl⊢;split
   ·rfl
   by_cases hj:j=i
   ·subst hj;rw[M] at hq;cases hq;exact h3 p ao
   simp only[hj,Xd0] at hl;exact H j q hq hl p ao
  unfold wpOp;simp only[M];have:=Qs (Q:=Q) hT hC af hR (next:=wpAny P .any F Q (rp+1) (listed.setIfInBounds i true)) ag;split
  ·rename_i hw;rw[Xy hw] at this;exact .inl this
  rename_i hw;rw[Xj hw] at this;exact this
def RQ {wl:WL}{cx:Cx}(hT:rc P cx.T)(hC:Oi wl P cx)(hm:P.follows .mixedOrders=true) :∀(E:Env),E.wl=wl->∀(tr:Trk) (id:Nat) (F:Array z) (st:r9) (a:Act) (w:B) (K:r9->Prop) (Q:Exit->Act->B->Prop),tr.np=cx.np-> Ef F=true->RJ cx F F.toList [] st (λa1 U=>EF F 0 a1=true/\K U)->RR E tr st a w->(∀U a' w',K U->RR E tr U a' w'->Q .normal a' w')->(Code.region id F true).wp P Q a w:=by
 intro E a6 tr id F st a w K Q ab hd h hR hQ;subst a6;obtain⟨Z,fin,V,⟨M,hK⟩,H⟩:=Nn F.toList 0 [] (λk hk=>by simp at hk;simp[hk]) h;have H:=H (λk=>Z.getD k default) λk hk=>by simp[hk]
 simp only[Xal] at V H;have a7:Z=(List.range' 0 F.size).map λk=>Z.getD k default:=by
  apply List.ext_getElem
  ·simp[V]
  intro k h1 h2;simp[h1]
 rw[List.reverse_nil,Xax,a7] at M;have Y:=KC F.size 0 M;refine wp_region_any hm ?_;obtain⟨S,φ,J,a8⟩:=hR;obtain⟨md,kd⟩:=J.mem.drew;have aa:RR E tr st a w.drew:=⟨S,φ,⟨J.sz,λi hi=>⟨kd.tZ (J.tm i hi).2 (J.tm i hi).1,(J.tm i hi).2⟩,J.df,md⟩,a8⟩;refine Sl hT hC hd (f:=λk=>Z.getD k default) (λj k h1 h2=>Y j k (by omega) h1 (by omega)) (λa w hR=>hQ fin a w hK hR) F.size (List.range' 0 F.size) _ (by simp) (by simp) List.pairwise_lt_range' (λk=>?_) ?_ H aa
 ·simp[Xd6]
 intro i o ho hl;simp[Xd6] at hl
def SZ :∀(l:O z),(Ji l).length=l.length-1/\∀k (F:k<(Ji l).length),∃H:k<l.length,(Ji l)[k]=l[k]
 | []=>⟨rfl,λk F=>by simp[Ji] at F⟩
 | [_]=>⟨rfl,λk F=>by simp[Ji] at F⟩
 | o::p::l=>by
  obtain⟨K,J⟩:=SZ (p::l);refine⟨by simp only[Ji,X12] at *;omega,λk F=>?_⟩;cases k with
  | zero=>exact⟨by simp,rfl⟩
  | succ k=>obtain⟨q1,q2⟩:=J k (by simpa[Ji] using F);exact⟨by simpa using q1,by simpa[Ji] using q2⟩
def Sr {cx:Cx}{F:Array z}{st:r9}{K:r9->Prop} :∀{l:O z},fx cx F st K l->∃o,l[l.length-1]?=some o/\YQ cx F o st K
 | [],h=>h.elim
 | [o],h=>⟨o,rfl,h⟩
 | _::p::l,h=>by obtain⟨o,H,J⟩:=Sr (l:=p::l) h;exact⟨o,by simpa using H,J⟩
def MY {wl:WL}{cx:Cx}(hT:rc P cx.T)(hC:Oi wl P cx)(hm:P.follows .mixedOrders=true):UT wl P cx:=by
 intro E Z tr id F st a w K Q a1 h hR hQ;rcases h with ⟨hd,h⟩|⟨⟨hd,ht⟩,h⟩
 ·exact RQ hT hC hm E Z tr id F st a w K Q a1 hd h hR hQ
 subst Z;simp only[Na,X27,Wo,Xc4] at ht;obtain⟨a7,a6⟩:=ht;have ae:0<F.size:=X29 a7;obtain⟨il,ig⟩:=SZ F.toList;simp only[Xal] at il
 obtain⟨es,fin,U,⟨M,hK⟩,H⟩:=Nn (Ji F.toList) 0 [] (λk hk=>by
  obtain⟨q1,q2⟩:=ig k hk;rw[q2];simp only[Xal] at q1
  simp[q1]) h
 have H:=H (λk=>es.getD k default) λk hk=>by simp[hk]
 rw[il] at U H;have a8:es=(List.range' 0 (F.size-1)).map λk=>es.getD k default:=by
  apply List.ext_getElem
  ·simp[U]
  intro k h1 h2;simp[h1]
 rw[List.reverse_nil,Xax,a8] at M;have V:=KC (F.size-1) 0 M;obtain⟨o,ho,Y⟩:=Sr hK;simp only[Xal] at ho;have ho:F[F.size-1]?=some o:=by simpa using ho
 refine wp_region_any hm ?_;obtain⟨S,φ,J,aa⟩:=hR;obtain⟨md,kd⟩:=J.mem.drew;have ab:RR E tr st a w.drew:=⟨S,φ,⟨J.sz,λi hi=>⟨kd.tZ (J.tm i hi).2 (J.tm i hi).1,(J.tm i hi).2⟩,J.df,md⟩,aa⟩;have key:=Py (t:=F.size-1) (Q:=Q) (fin:=fin) hT hC (by omega) (λj hj=>by simpa using a6 j hj) hd (f:=λk=>es.getD k default) (λj k h1 h2=>V j k (by omega) h1 (by omega)) (λa w hR=>?_) (F.size-1) (List.range' 0 (F.size-1)) (Array.replicate F.size false) (by simp) (by simp) List.pairwise_lt_range' (by simp[Xd6,show F.size-1<F.size by omega]) (λk=>?_) (λi o ho hl=>?_) H ab
 ·rw[show F.size-1+1=F.size by omega] at key;exact key
 ·unfold wpOp;simp only[ho];have:=OL (Q:=Q) hT hC a1 Y hR (next:=Q .normal) hQ;split
  ·rename_i hw;rw[Xy hw] at this;exact .inl this
  rename_i hw;rw[Xj hw] at this;exact this
 ·rw[List.mem_range'_1];constructor
  ·rintro⟨_,hi⟩;exact⟨by omega,by simp[Xd6,show k<F.size by omega]⟩
  rintro⟨hi,_⟩;exact⟨by omega,by omega⟩
 simp[Xd6] at hl
end
end Go.AX
end
section
namespace Go.AX
def d5:D->A->I
 | .val (.int k n),.int F H=>decide (k=F)&&decide (n=H)
 | .val (.bool b),.bool J=>b==J
 | .val (.string s),.string K=>Xa6 s.data.toList.length 0&&Xa6 K.data.toList.length 0
 | .val (.pointer none),.pointer none=>true
 | .val .nilFunc,.nilFunc=>true
 | .val .nilIface,.nilIface=>true
 | .val (.map none),.map none=>true
 | .nil _,.slice none 0 0=>true
 | _,_=>false
def fk {d:D}{v:A}(h:d5 d v=true):IH d v:=by
 unfold d5 at h;split at h
 ·simp only[X27,Xe] at h;obtain⟨rfl,rfl⟩:=h;exact⟨rfl,rfl⟩
 ·have h:=eq_of_beq h;subst h;exact⟨rfl,rfl⟩
 ·rename_i s F;simp only[X27,Bd,List.length_eq_zero_iff] at h;have e:s=F:=by cases s;cases F;congr;apply Array.toList_inj.1;rw[h.1,h.2]
  subst e;exact⟨rfl,rfl⟩
 all_goals first|exact⟨rfl,rfl⟩|rfl|simp at h
def OF:O D->O A->I
 | [],[]=>true
 | d::F,v::vs=>d5 d v&&OF F vs
 | _,_=>false
def Si :∀{F:O D} {vs:O A},OF F vs=true->F.length=vs.length/\∀j (H:j<F.length) v,vs[j]?=some v->IH F[j] v
 | [],[],_=>⟨rfl,λj H=>by simp at H⟩
 | d::F,v::vs,h=>by
  simp only[OF,X27] at h;obtain⟨K,M⟩:=Si h.2;refine⟨by simp[K],λj H u J=>?_⟩;cases j with
  | zero=>simp only[List.getElem?_cons_zero,X24] at J;subst J;exact fk h.1
  | succ j=>exact M j (by simpa using H) u (by simpa using J)
 | [],_::_,h=>by simp[OF] at h
 | _::_,[],h=>by simp[OF] at h
def tB (P:Xcz):O Field->O (Nat×Nat×Nat)->I
 | [],[]=>true
 | f::fs,(o,s,t)::l=>Xa6 f.offset o&&Xa6 f.type t&&(match P.info? f.type with
  | some i=>Xa6 i.size s
  | none => false) && !(f.name == "_") && tB P fs l
 | _,_=>false
def PY {P:Xcz} :∀{F:O Field} {l:O (Nat×Nat×Nat)},tB P F l=true-> F.map (fun f => (f.offset, (P.info? f.type).map (·.size), f.type)) = l.map (fun x => (x.1, some x.2.1, x.2.2)) ∧ ∀ f ∈ F, f.name ≠ "_"
 | [],[],_=>⟨rfl,λf J=>by simp at J⟩
 | f::fs,(o,s,t)::l,h=>by
  simp only[tB,X27,Bd] at h;obtain⟨⟨⟨⟨K,M⟩,H⟩,Q⟩,U⟩:=h;obtain⟨V,Y⟩:=PY U;refine⟨?_,λg hg=>?_⟩
  ·simp only[Xam,V,Xd7,X26,and_true];refine⟨K,?_,M⟩;split at H
   ·rename_i i Z;rw[Z];simpa using H
   simp at H
  rcases Wp.1 hg with rfl|hg
  ·simpa using Q
  exact Y g hg
 | [],_::_,h=>by simp[tB] at h
 | _::_,[],h=>by simp[tB] at h
def gZ (P:Xcz)(t:Nat)(k:TK):I:=match k,P.underlying t with
 | .bool,some .bool=>true
 | .int k,some (.int J)=>decide (J=k)
 | .str,some .string=>true
 | .ptr,some (.pointer _)=>true
 | .fn,some (.func _ _ _)=>true
 | .slice e,some (.slice H)=>Xa6 H e
 | .arr n e,some (.array K H)=>Xa6 K n&&Xa6 H e
 | .map k e,some (.map J H)=>Xa6 J k&&Xa6 H e
 | .struct fs,some (.struct F)=>!P.stoodInHeld t&&!P.eqGuardType P.depth t&&tB P F.toList fs
 | .other,_=>true
 | _,_=>false
def d3 {P:Xcz}{t:Nat}{k:TK}(h:gZ P t k=true):rW P t k:=by
 unfold gZ at h;split at h<;>simp only[rW]
 ·assumption
 ·rename_i hu;rw[hu,of_decide_eq_true h]
 ·assumption
 ·exact⟨_,by assumption⟩
 ·exact⟨_,_,_,by assumption⟩
 ·rename_i hu;rw[hu,X30 h]
 ·rename_i hu;simp only[X27,Bd] at h;rw[hu,h.1,h.2]
 ·rename_i hu;simp only[X27,Bd] at h;rw[hu,h.1,h.2]
 ·rename_i fs F hu;simp only[X27,Xb7] at h;exact⟨h.1.1,h.1.2,F,hu,PY h.2⟩
 simp at h
def mU (k:TK)(z:A):I:=match z,k.sG with
 | .agg _,some false=>false
 | .agg _,_=>true
 | _,some true=>false
 | _,_=>true
def yc (P:Xcz)(t:Nat)(F:TI):I:=match P.info? t with
 | some i=>(match i.zero with
  | some z=>Xa6 i.size F.size&&Xa6 i.bytes F.bytes&&Xa6 F.zero.length F.size&&OF F.zero z.cells.toList&&gZ P t F.kind&&mU F.kind z
  | none=>false)
 | none=>false
def lj {P:Xcz}{t:Nat}{K:TI}(h:yc P t K=true):ud P t K:=by
 unfold yc at h;split at h
 ·rename_i i M;split at h
  ·rename_i z Q;simp only[X27,Bd] at h;obtain⟨⟨⟨⟨⟨Y,Z⟩,U⟩,h4⟩,h5⟩,V⟩:=h;obtain⟨g1,g2⟩:=Si h4
   exact⟨⟨i,z,M,Y,Z,Q,by rw[<- Xal,<- g1,U],U,λj hj v hv=>g2 j hj v (by simpa using hv)⟩,d3 h5,λi' z' F H=>by
    rw[M] at F;obtain rfl:=X25 F;rw[Q] at H;obtain rfl:=X25 H;refine⟨λJ=>?_,λJ cs e=>?_⟩
    ·cases z<;>first|exact⟨_,rfl⟩|(simp[mU,J] at V)
    subst e;simp[mU,J] at V⟩
  simp at h
 simp at h
def kJ (P:Xcz):TT->I
 | .s4=>true
 | .node k v l r=>(v.kind.sG.isNone || yc P k v)&&kJ P l&&kJ P r
def TY {P:Xcz} :∀{T:TT},kJ P T=true->rc P T
 | .s4,_=>λt=>.inl rfl
 | .node k v l r,h=>λt=>by
  simp only[kJ,X27,Xco] at h;simp only[TT.get];cases F:Xa6 t k with
  | true=>
   have:=X30 F;subst this;simp only;rcases h.1.1 with h|h
   ·exact .inl (by simpa using h)
   exact .inr (lj h)
  | false=>
   simp only;cases Xbr t k with
   | true=>exact TY h.1.2 t
   | false=>exact TY h.2 t
abbrev vo (wl:WL)(P:Xcz)(T:TT)(s9:Xcx->O I)(inl:Xcx->I)(ex np:Nat):Cx:=⟨T,np,Bj wl P,s9,wl.G,inl,Wa wl P,ex⟩
def lL {wl:WL}{P:Xcz}{T:TT}(J:rc P T)(K:P.follows .mixedOrders=true)(s9:Xcx->O I)(inl:Xcx->I)(ex:Nat){f:Xcx}{fn:Func}{args:O AV}{gF:O OB}{H:AV}{F:O OB} (M : P.funcs[f]? = some fn) (Q : (fn.name == "runtime.NumGoroutine") = false) (h : XC (vo wl P T s9 inl ex gF.length) fn args gF fun r o => r = H ∧ o = F) : Bj wl P f args gF H F :=
 Xc (cx:=vo wl P T s9 inl ex gF.length) J ⟨rfl,λ_ _ _ _ _ h=>h,λ_ _ _ _ h=>h⟩ (MY J ⟨rfl,λ_ _ _ _ _ h=>h,λ_ _ _ _ h=>h⟩ K) M (by simpa using Q) h
def lZ {wl:WL}{P:Xcz}{T:TT}(F:rc P T)(H:P.follows .mixedOrders=true)(s9:Xcx->O I)(inl:Xcx->I)(np:Nat){f:Xcx}{fn:Func}{args:O AV}{ob:O (C OB)}{K:AV->O (C OB)->Prop} (J : P.funcs[f]? = some fn) (M : (fn.name == "runtime.NumGoroutine") = false) (h : ip (vo wl P T s9 inl 0 np) fn args ob K) : Wa wl P f args ob K :=
 .inl <| X3 (cx:=vo wl P T s9 inl 0 np) F ⟨rfl,λ_ _ _ _ _ h=>h,λ_ _ _ _ h=>h⟩ (MY F ⟨rfl,λ_ _ _ _ _ h=>h,λ_ _ _ _ h=>h⟩ H) J (by simpa using M) h
def sL (x:Int):Prop:=-9223372036854775808<=x/\x<=9223372036854775807
def N7 {a b:Int}(F:a=b)(H:sL b):Xdc.wrap a=b:=by subst F;exact IntWalk.i64_in a H
def sL.of {x:Int}(h:-9223372036854775808<=x/\x<=9223372036854775807):sL x:=h
def zB {n b:Nat}(F:Xdi b 65536=true)(H:n<=1000000000):n*b<=2^47/\n<=2^47:=by have F:=X29 F;have:=Nat.mul_le_mul H F;omega
end Go.AX
end
section
namespace Go.AX
open Go.RowKit
def vE (w:B):Sc:=λb o=>∃v,cellAt w b o=some v
def ke {P:Xcz}{f:Xcx}{args:O AV}{K:AV}{wl:WL}(h:Bj wl P f args [] K [])(w:B){gb:Nat->Prop}(hg:wl.gf gb w/\∀b,gb b->b<w.heap.size)(F:Array A)(V:F.size=args.length) (H :∀i (hi:i<args.length),gM (vE w) w (λ_=>none) (rY []) args[i] (F.getD i Xc3)/\gO (rY []) args[i]) : Calls P f F w λe w'=>(∃v S φ,e=.returned v/\gM S w' φ (rY []) K v)/\Below w.heap.size w w':=by
 have Q :∀r,rY [] r=none:=λr=>by simp[rY]
 refine (h.2 w (vE w) (λ_=>none) gb ⟨hg.1,hg.2,(by rintro b hb ⟨r,c,Y,_⟩;simp at Y),λb o _ Z=>by
  cases J:cellAt w b o with
  | none=>exact absurd J Z
  | some v=>exact⟨v,J⟩⟩ F V H (λ_ _=>rfl) ⟨λr o M=>by rw[Q] at M;simp at M,λr _ _ _ _ H=>absurd (Q r) H,λr o M=>by rw[Q] at M;simp at M,λ_ _ h=>h,λ_ _ _=>rfl,λb o hS=>?_,λ_ _ h _ _=>h,λ_ _ _=>rfl,Xa8 _,λr _ _ H=>absurd (Q r) H,⟨rfl,rfl,rfl,.inr (Xa8 _)⟩⟩).mono λe w' he=>?_
 ·obtain⟨v,J⟩:=hS;refine Xaz λU=>?_;simp[cellAt,World.cell?,U] at J
 obtain⟨v,rfl,S',φ',m,_,J,_⟩:=he;refine⟨⟨v,S',φ',rfl,J⟩,m.os.1,m.os.2.2.1,m.os.2.1,m.sz,λk hk=>m.fr k hk ?_⟩;rintro⟨r,c,H,_⟩;exact absurd H (by simp)
def ZV {P:Xcz}{f:Xcx}{args:O AV}{wl:WL}(h:Bj wl P f args [] (.b true) [])(w:B){gb:Nat->Prop}(hg:wl.gf gb w/\∀b,gb b->b<w.heap.size)(F:Array A)(H:F.size=args.length) (J :∀i (Q:i<args.length),gM (vE w) w (λ_=>none) (rY []) args[i] (F.getD i Xc3)/\gO (rY []) args[i]) : Calls P f F w λe w'=>e=.returned (.bool true)/\Below w.heap.size w w':=
 (ke h w hg F H J).mono λe w' ⟨⟨v,S,φ,he,K⟩,M⟩=>⟨by rw[he,K.bool],M⟩
end Go.AX
end
section
namespace Go.AX
open Go.RowKit Go.Deep Go.ChangeShapes Go.WideShapes
section
variable {H:Type} {enc:TypeId×A->H} {P:Program} {w:B}
def tl (w:B)(F:O D)(J:O A):Prop:=
 F.length=J.length/\(∀d∈F,d.isAgg=false)/\∀j (K:j<F.length) v,J[j]?=some v->rH (vE w) w F[j] v
def Wt (P:Xcz)(t:Nat)(d:DataW H):Prop:=(d.weights P t).all (·<=Xak)=true
def tA {e:Nat} :∀{l:O (DataW H)} {d:DataW H},d∈l->∀n∈d.weights P e,n∈DataW.weightsAll P e l
 | x::l,d,F,n,J=>by
  simp only[DataW.weightsAll,X23];rcases Wp.1 F with rfl|F
  ·exact .inl J
  exact .inr (tA F n J)
def Wt.slice {t e:Nat}{el F:O (DataW H)}(J:P.underlying t=some (.slice e))(h:Wt P t (.slice el F)):(el.length+F.length)*P.bytesOf e<=Xak/\∀d∈el,Wt P e d:=by have h:=Wo.1 h;simp only[DataW.weights,J,Wp,X23] at h;refine⟨by simpa using h _ (.inl rfl),λd K=>Wo.2 λn M=>h n (.inr (.inl (tA K n M)))⟩
def Wt.string {t:Nat}{b:O S}(h:Wt (H:=H) P t (.lit (.string b))):b.length<=Xak:=by have h:=Wo.1 h;simp only[DataW.weights] at h;simpa using h _ (X14.2 rfl)
def Wt.agg {t:Nat}{F:Array Field}{J:O (DataW H)}(K:P.underlying t=some (.struct F))(h:Wt P t (.agg J)){i:Nat}{f:Field}{d:DataW H}(M:F[i]?=some f)(Q:J[i]?=some d):Wt P f.type d:=by have h:=Wo.1 h;simp only[DataW.weights,K] at h;exact Wo.2 λn U=>h n (DataW.weights_mem_each (ts:=F.toList.map (·.type)) (j:=i) (by simp[M]) Q n U)
structure vU (H:Type)(P:Program) where
 W:Nat->DataW H->Prop
 S:Nat->Nat->Prop
 zB:Nat
 slice :∀{t e:Nat} {el sp:List (DataW H)},P.underlying t=some (.slice e)->W t (.slice el sp)->S e el.length/\∀d∈el,W e d
 string :∀{t:Nat} {b:List UInt8},W t (.lit (.string b))->b.length<=zB
 agg :∀{t:Nat} {F:Array Field} {ds:List (DataW H)},P.underlying t=some (.struct F)->W t (.agg ds)->∀{i:Nat} {f:Field} {d:DataW H},F[i]?=some f->ds[i]?=some d->W f.type d
def vU.reach (H:Type)(P:Xcz):vU H P where
 W:=Wt P
 S e n:=n*P.bytesOf e<=Xak
 zB:=Xak
 slice ht h:=⟨Xa3 (X31 _ (by simp)) (Wt.slice ht h).1,(Wt.slice ht h).2⟩
 string h:=Wt.string h
 agg ht h _ _ _ hf hd:=Wt.agg ht h hf hd
def sZ (L:vU H P)(enc:TypeId×A->H)(w:B)(t:Nat){α:Type}(cells:α->O D)(ok:α->Prop):Prop:=
 ∀rp F x,DataW.trod enc P w 0 (λ_=>true) true rp t F=some x->L.W t x.1->∃a,ok a/\tl w (cells a) F
abbrev Reads (enc:TypeId×A->H)(P:Xcz)(w:B)(t:Nat){α:Type}(cells:α->O D)(ok:α->Prop):Prop:=sZ (vU.reach H P) enc w t cells ok
variable {L:vU H P}
def tl.one {d:D}{v:A}(K:d.isAgg=false)(h:rH (vE w) w d v):tl w [d] [v]:=
 ⟨rfl,λx F=>by simp only[X14] at F;rw[F];exact K,λj M u J=>by
  have:j=0:=by simpa using M
  subst this;simp only[List.getElem?_cons_zero,X24] at J;subst J
  exact h⟩
def tl.append {K es:O D}{Q U:O A}(h:tl w K Q)(k:tl w es U):tl w (K++es) (Q++U):=by
 obtain⟨V,Y,Z⟩:=h;obtain⟨k1,k2,k3⟩:=k;refine⟨by simp[V,k1],λd F=>?_,λj hj v J=>?_⟩
 ·rcases X23.1 F with F|F
  ·exact Y d F
  exact k2 d F
 rw[Xbs];split
 ·rename_i M;rw[Ww (by omega)] at J;exact Z j M v J
 rename_i a1;rw[Xa4 (by omega),<- V] at J;exact k3 (j-K.length) (by simp at hj;omega) v J
def sZ.map {t:Nat}{α K:Type}{cells:α->O D}{ok:α->Prop}(h:sZ L enc w t cells ok){F:K->O D}{J:K->Prop}(g:α->K)(M :∀a,F (g a)=cells a)(Q :∀a,ok a->J (g a)):sZ L enc w t F J:=by intro rp U x V Y;obtain⟨a,Z,h2⟩:=h rp U x V Y;exact⟨g a,Q a Z,by rw[M];exact h2⟩
def bH {t:Nat}{k:IntKind}(F:P.underlying t=some (.int k)):sZ L enc w t (λn:Int=>[.val (.int k n)]) (λn=>(Lit.int k n).wf=true):=by intro rp K x h _;obtain⟨n,rfl,_,J⟩:=DataW.trod_int F h;exact⟨n,J,tl.one rfl (.val _ rfl)⟩
def TV {t e sz:Nat}{α:Type}{el:α->D}{ok:α->Prop}{sok:Nat->Prop}(ht:P.underlying t=some (.slice e))(s7:P.cellsOf e=sz)(a1:0<sz)(a6:sok 0)(a7 :∀n,L.S e n->sok n)(h:sZ L enc w e (λa=>(el a).cells) ok) : sZ L enc w t (λl:O α=>[.su sz (l.map el)]) (λl=>l.length<=Xbl/\sok l.length/\∀a∈l,ok a):=by
 intro rp cs x hx hw;rcases open_slice ht hx with ⟨rfl,_⟩|⟨a,len,af,m,n,D,Pl,rfl,_,a8,hm,Y,rfl,aa⟩
 ·exact⟨[],⟨by simp,a6,by simp⟩,tl.one rfl (.sB _ _ _)⟩
 obtain⟨Z,ag⟩:=L.slice ht hw;have Z:sok len:=a7 _ (by simpa using Z);have Y:m=af:=Y.trans (Xy rfl);subst Y;rw[s7] at aa;have one :∀i,i<len->∃q:α×O A,ok q.1/\tl w (el q.1).cells q.2/\w.cells? 0 (a.add (i*sz)) sz=some q.2:=by intro i F;obtain⟨ab,h1,Q⟩:=aa i (by omega);obtain⟨b,h3,h4⟩:=h n ab _ Q (ag _ (Xa0.2 ⟨i,Xc4.2 F,rfl⟩));exact⟨(b,ab),h3,h4,h1⟩
 by_cases h0:len=0
 ·subst h0;exact⟨[],⟨by simp,a6,by simp⟩,tl.one rfl (.sB _ _ _)⟩
 obtain⟨q0,_⟩:=one 0 (by omega);haveI:Inhabited (α×O A):=⟨q0⟩;obtain⟨f,hf⟩:=choose_lt one;have J:a.spot=none:=by
  obtain⟨_,_,h3⟩:=hf 0 (by omega);obtain⟨_,hl,hc⟩:=World.cells?_some h3;have:=hc 0 a1;rw[Nat.zero_mul] at this;have e:(a.add 0).add 0=a:=by simp[Addr.add]
  rw[e] at this;have U:0<(f 0).2.length:=by omega
  rw[X15 U] at this;unfold World.cell? at this;split at this
  ·cases hs:a.spot with
   | none=>rfl
   | some s=>simp[hs] at this
  simp at this
 obtain⟨b,o,sp⟩:=a;simp only at J;subst J;have ae :∀i j,((⟨b,o,none⟩:Addr).add i).add j=⟨b,o+i+j,none⟩:=by intro i j;rw[Addr.ss,Addr.ss]
 have K :∀i j,i<len->j<sz->∃v,(f i).2[j]?=some v/\cellAt w b (o+i*sz+j)=some v:=by
  intro i j F V;obtain⟨_,_,h3⟩:=hf i F;obtain⟨_,hl,hc⟩:=World.cells?_some h3;have:=hc j V;rw[ae] at this;have U:j<(f i).2.length:=by omega
  exact⟨(f i).2[j],X15 U,by rw[X15 U] at this;exact this⟩
 have M :∀i,i<len->(el (f i).1).cells.length=sz:=by intro i F;obtain⟨_,Q,h3⟩:=hf i F;obtain⟨_,hl,_⟩:=World.cells?_some h3;rw[Q.1,hl]
 refine⟨(Xb4 len).map λi=>(f i).1,⟨by simp;omega,by simpa using Z,λa ha=>?_⟩,tl.one rfl ?_⟩
 ·obtain⟨i,F,rfl⟩:=Xa0.1 ha;exact (hf i (Xc4.1 F)).1
 have hL:(((Xb4 len).map λi=>(f i).1).map el).length=len:=by simp
 have:=rH.su (S:=vE w) (w:=w) sz (((Xb4 len).map λi=>(f i).1).map el) b o m (λi j=>((f i).2[j]?).getD Xc3) (by rw[hL];exact Xa3 a8 hm) (by rw[hL];exact a8) (λi F=>?_) (λi j F V=>?_) (λi F j V=>?_) (λi F j V=>?_)
 ·rw[hL] at this;exact this
 ·rw[hL] at F;simpa using M i F
 ·rw[hL] at F;obtain⟨v,h1,Q⟩:=K i j F V;exact⟨⟨v,Q⟩,by rw[Q,h1];rfl⟩
 ·rw[hL] at F;obtain⟨_,Q,_⟩:=hf i F;exact Q.2.1 _ (by simp)
 rw[hL] at F;obtain⟨_,Q,_⟩:=hf i F;simp only[Xas,Xcs] at V⊢;have ah:j<sz:=by rw[M i F] at V;exact V
 obtain⟨v,h1,_⟩:=K i j F ah;rw[h1];exact Q.2.2 j V v h1
def uu {t e sz by':Nat}{α:Type}{el:α->D}{ok:α->Prop}(K:P.underlying t=some (.slice e))(s7:P.cellsOf e=sz)(F:0<sz)(J:P.bytesOf e=by')(h:Reads enc P w e (λa=>(el a).cells) ok) : Reads enc P w t (λl:O α=>[.su sz (l.map el)]) (λl=>l.length<=Xbl/\l.length*by'<=Xak/\∀a∈l,ok a):=
 TV (sok:=λn=>n*by'<=Xak) K s7 F (by simp) (λ_ h=>J▸h) h
def tl.val {d:D}{v:A}(h:tl w [d] [v]):rH (vE w) w d v:=h.2.2 0 (by simp) v (by simp)
def tl.agg {J:O D}{F:Array A}(h:tl w J F.toList):rH (vE w) w (.agg J) (.agg F):=by
 obtain⟨K,Q,U⟩:=h;refine .agg J F (λi=>F.getD i Xc3) (by simpa using K.symm) (λi M=>?_) (λi M=>Q _ (by simp)) λi M=>U i M _ ?_
 ·have:i<F.size:=by have:=K;simp at this;omega
  simp[this]
 have:i<F.size:=by have:=K;simp at this;omega
 simp[this]
end
end Go.AX
end
