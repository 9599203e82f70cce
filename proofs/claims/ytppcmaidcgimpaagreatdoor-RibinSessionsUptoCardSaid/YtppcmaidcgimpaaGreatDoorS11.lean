/-
  Texts of one proof, packed.
-/
import Derived.Test.YtppcmaidcgimpaaGreatDoorS10
set_option linter.all false
set_option maxRecDepth 100000
set_option maxHeartbeats 4000000
open List renaming length_map→X6,length_append→X10,mem_singleton→X13,getElem?_eq_getElem→X14,getElem?_eq_some_iff→X15,length_drop→X16,length_take→X17,length_replicate→X19,length_set→X20,length_singleton→X21,mem_append→X22
open Option.some renaming injEq→X23,inj→X24
open Bool renaming and_eq_true→X26
open Nat renaming le_of_ble_eq_true→X28,eq_of_beq_eq_true→X29
open List renaming range→Xb2
open Go renaming undef→Xbn,FuncId→Xcs
open Nat renaming blt→Xbv
open Go.Result renaming andThen_ok→Xa5
open Go.Sem renaming run_bind→Xad,run_pure→Xc5
open Go.Instr renaming sureAddr→Xbw,loadAt→Xch
section
namespace Go.AX
section
variable {P:Program} {E:Env} {tr:Trk} {w:B} {S:Sc} {φ:Nat->O (Nat×Rp)}
def fN (tmps:Array A):ResultVar->Sem A
 | .tmp t=>pure (tmps.getD t Xbn)
 | .cell a t=>do loadVar t (← asAddr (tmps.getD a Xbn))
def fe:I A->A
 | [u]=>u
 | F=>.tuple F.toArray
def Yn (fn:Func)(tmps:Array A):results fn tmps=(do
  let vs ← fn.results.mapM (fN tmps)
  pure (if h:vs.size=1 then vs[0] else .tuple vs)):=by
 unfold results;congr 2
def P0 {fn:Func}{tmps:Array A}{F:I A}(h:(fn.results.toList.mapM (fN tmps)).run P w=.ok F w):(results fn tmps).run P w=.ok (fe F) w:=by
 rw[Yn,Array.mapM_eq_mapM_toList];simp only[Xad,Sem.run_map,h,Xa5,Xc5];match F with
 | []=>rfl
 | [u]=>rfl
 | u::v::F=>rfl
def J2 {cx:Cx}(Q:py P cx.T){st:pw}{a:Act}(J:R E st a w S φ) :∀{rs:I ResultVar} {K:I AV->Prop},U7 cx st rs K-> ∃F H,K F/\(rs.mapM (fN a.tmps)).run P w=.ok H w/\r5 (λx v=>gM S w φ (qw st.ob) x v/\gN (qw st.ob) x) F H
 | [],K,h=>⟨[],[],h,rfl,.nil⟩
 | .tmp t::rs,K,h=>by simp only[U7,Ba] at h;obtain⟨F,H,U,V,Y⟩:=J2 Q J h;refine⟨_,a.tmps.getD t Xbn::H,U,?_,.cons (J.av (.tmp t)) Y⟩;simp[List.mapM_cons,fN,V]
 | .cell p ty::rs,K,h=>by
  simp only[U7] at h;have hp:=J.av (.tmp p);simp only[sJ] at hp;split at h
  ·rename_i r off hr;rw[hr] at hp;obtain⟨out,u,U,V,Y,h4⟩:=PY Q J.mem hp.1 hp.2 h;obtain⟨F,H,g1,g2,g3⟩:=J2 Q J U;refine⟨_,u::H,g1,?_,.cons ⟨Y,h4⟩ g3⟩;obtain⟨b,c,_,M⟩:=hp.1.um;have M:a.tmps.getD p Xbn=.pointer (some ⟨b,off,none⟩):=M;have Z:(loadVar ty ⟨b,off,none⟩).run P w=.ok u w:=by have:(Xch ty (a.tmps.getD p Xbn)).run P w=.ok u w:=V;rw[M] at this;simpa[Xch,Xbw] using this
   simp only[List.mapM_cons,fN,M,asAddr,Xad,Xc5,Xa5,Z,g2]
  exact h.elim
def Mem.restrict {ob:Nat->O OB}(m:Mem E w S φ ob){idx:I Nat}{gD:I OB}(Z:idx.Nodup)(hl:idx.length=gD.length) (H :∀i (F:i<idx.length) (hi':i<gD.length),ob idx[i]=some gD[i]/\BK gD[i]=true):Mem E w S (qZ idx φ) (qt gD):=by
 have get :∀{i:Nat},qt gD i≠none->∃F:i<idx.length,ob idx[i]≠none/\qZ idx φ i=φ idx[i]:=by
  intro i h;have F:i<idx.length:=by refine Xax λa1=>h ?_;simp[qt,show gD.length<=i by omega]
  refine⟨F,?_,by simp[qZ,F]⟩;rw[(H i F (by omega)).1];simp
 refine⟨λi o h=>?_,λi j b c c' Q J U V=>?_,λi o h r' Y=>?_,m.sS,m.kS,m.bS,m.nS,m.fr,m.sz,λi b c h g=>?_,m.os⟩
 ·obtain⟨F,Q,J⟩:=get (i:=i) (by simp[h]);have e1:gD[i]=o:=by simpa[qt,show i<gD.length by omega] using h
  rw[<- e1];exact (m.obj _ _ (H i F (by omega)).1).rename (H i F (by omega)).2 J
 ·obtain⟨F,K,M⟩:=get Q;obtain⟨hj,q1,q2⟩:=get J;rw[M] at U;rw[q2] at V;exact (List.getElem_inj Z).1 (m.inj _ _ b c c' K q1 U V)
 ·obtain⟨F,_,_⟩:=get (i:=i) (by simp[h]);have e1:gD[i]=o:=by simpa[qt,show i<gD.length by omega] using h
  rw[<- e1,Jv (H i F (by omega)).2] at Y;simp at Y
 obtain⟨F,K,M⟩:=get h;exact m.ow _ b c K (M▸g)
def Np {obl:I (O OB)} :∀{n i:Nat} {K:I OB->Prop},JW obl n i K->∃gD,K gD/\gD.length=n/\∀j (H:j<gD.length),obl.getD (i+j) none=some gD[j]/\BK gD[j]=true
 | 0,i,K,h=>⟨[],h,rfl,λj H=>by simp at H⟩
 | n+1,i,K,h=>by
  simp only[JW,Ax] at h;obtain⟨o,F,h⟩:=h;have go :∀{o:OB},obl.getD i none=some o->BK o=true->JW obl n (i+1) (λl=>K (o::l))->∃gD,K gD/\gD.length=n+1/\∀j (H:j<gD.length),obl.getD (i+j) none=some gD[j]/\BK gD[j]=true:=by
   intro o F J h;obtain⟨gD,M,Q,U⟩:=Np h;refine⟨o::gD,M,by simp[Q],λj H=>?_⟩;cases j with
   | zero=>exact⟨F,J⟩
   | succ j=>have:=U j (by simpa using H);rw[show i+1+j=i+(j+1) by omega] at this;exact this
  cases o with
  | box Y=>simp only[Jq] at h;exact go F h.1 h.2
  | row e sz V f=>simp only[AD] at h;exact go F h.1 h.2
  | gone=>exact go F rfl h
  | qu=>exact h.elim
  | map k e V=>exact go F rfl h
def O2 :∀{rs:I Nat} {r k:Nat},Vv rs r=some k->rs[k]?=some r
 | [],r,k,h=>by simp[Vv] at h
 | x::rs,r,k,h=>by
  simp only[Vv] at h;split at h
  ·rename_i F;simp only[X23] at h;subst h;simp[X29 F]
  split at h
  ·rename_i H hk;simp only[X23] at h;subst h;simpa using O2 hk
  simp at h
def Uc :∀{rs:I Nat} {r:Nat},Vv rs r=none->NY rs r=false
 | [],r,_=>rfl
 | x::rs,r,h=>by
  simp only[Vv] at h;split at h
  ·simp at h
  rename_i F;split at h
  ·simp at h
  rename_i hk;simp only[NY,F,Uc hk,Bool.or_self]
def wq (rs:I Nat):AV->AV
 | .own r n=>(match NY rs r with
  | true=>.d (.nil 1)
  | false=>.own r n)
 | a=>a
def Qh (rs:I Nat) :∀F:I AV,O6 rs F=F.map (wq rs)
 | []=>rfl
 | c::F=>by cases c<;>simp only[O6,Xb5,Qh rs F]<;>rfl
def vt (np:Nat)(rs:I Nat):AV->D->AV
 | .own r n,d=>(match Vv rs r with
  | some k=>.own (np+k) n
  | none=>.d d)
 | _,d=>.d d
def WC (np:Nat)(rs:I Nat) :∀(F:I AV) (H:I D),Ye np rs F H=List.zipWith (vt np rs) F H
 | [],H=>by simp[Ye]
 | c::F,[]=>by cases c<;>simp[Ye]
 | c::F,d::H=>by cases c<;>simp only[Ye,List.zipWith_cons_cons,WC np rs F H]<;>rfl
def VD {obl:I (O OB)}{ob:Nat->O OB}{np:Nat}{rs:I Nat}(m:Mem E w S φ ob)(hx:qe (qw obl) ob){F:I AV}{v:A}{K:AV->Prop}(hv:gM S w φ ob (.agg F) v)(h:VQ np obl rs F K) : ∃x' wr S',K x'/\Mem E w S' φ (Ak ob wr)/\Kept w S φ ob w S' φ (Ak ob wr)/\qe (qw obl) (Ak ob wr)/\(∀q∈wr,np<=q.1/\q.1∉rs)/\rs.Nodup/\(∀r∈rs,np<=r)/\ (∀(φ':Nat->O (Nat×Rp)) (ob':Nat->O OB),(∀k (U:k<rs.length),φ' (np+k)=φ rs[k]/\ob' (np+k)=ob rs[k])->gM S' w φ' ob' x' v)/\∀q∈x'.refs,∃k,k<rs.length/\q=np+k:=by
 unfold VQ at h;rw[AD] at h;obtain⟨h0,h⟩:=h;simp only[X26,Xm] at h0;cases hv with|agg _ vs f hs hf a1 a6=>
 let Y:Nat->C:=λi=>match F[i]? with
  | some (.own r _)=>NY rs r
  | _=>false
 have a7:gM S w φ ob (.agg (O6 rs F)) (.agg (Array.ofFn (n:=F.length) λi=>if Y i then .slice none 0 0 else f i)):=by
  rw[Qh];refine .agg _ _ (λi=>if Y i then .slice none 0 0 else f i) (by simp) (λi Q=>?_) (λi Q=>?_) λi Q=>?_
  ·have Q:i<F.length:=by simpa using Q
   simp[Q]
  ·have H:i<F.length:=by simpa using Q
   rw[Xam];have:=a1 i H;revert this;generalize F[i]=c;intro this;cases c<;>simp only[wq]<;>first|exact this|(split<;>first|rfl|exact this)
  have H:i<F.length:=by simpa using Q
  rw[Xam];have V:=a6 i H;have M:Y i=match F[i] with
   | .own r _=>NY rs r
   | _=>false:=by simp only[Y,X14 H];generalize F[i]=c;cases c<;>rfl
  revert V M;generalize F[i]=c;intro V M;cases c<;>simp only[wq]<;>simp only at M<;>(try (rw[Xk (by simp[M])];exact V));rename_i r n;cases hb:NY rs r with
  | true=>rw[Xl (by rw[M,hb])];exact .d _ _ (.nil 1)
  | false=>rw[Xk (by rw[M,hb];simp)];exact V
 obtain⟨y,wr,S',V,M,h3,h4,h5,h6⟩:=EM m hx a7 h;cases y with
 | agg ds=>
  simp only[AD] at V;obtain⟨hw,hK⟩:=V;have aa :∀q∈wr,np<=q.1/\q.1∉rs:=λq hq=>by have:=Xm.1 hw q hq;simp only[X26,Xbj] at this;exact⟨X28 this.1,λe=>by rw[Xa.2 e] at this;simp at this⟩
  cases h4 with|agg _ _ g gs gf gn gr=>
  have a8:ds.length=F.length:=by simpa using gs.symm
  rw[WC] at hK;have al:(List.zipWith (vt np rs) F ds).length=F.length:=by simp[a8]
  refine⟨_,wr,S',hK,M,h3,h5,aa,RV h0.1,λr hr=>X28 (h0.2 r hr),λφ' ob' he=>?_,λq hq=>?_⟩
  ·refine .agg _ _ f (by omega) (λi Q=>hf i (by omega)) (λi Q=>?_) λi Q=>?_
   ·have H:i<ds.length:=by omega
    rw[List.getElem_zipWith];have hn:=gn i H;generalize F[i]'(by omega)=c;have hd :∀d:D,d.isAgg=false->(AV.d d).one=true:=λd hd=>by simp[AV.one,hd]
    cases c<;>simp only[vt]<;>first|exact hd _ hn|(split<;>first|rfl|exact hd _ hn)
   have H:i<ds.length:=by omega
   have Z:i<F.length:=by omega
   rw[List.getElem_zipWith];have q1:=a6 i Z;have q2:=gr i H;have q3:=gf i H;have M:Y i=match F[i] with
    | .own r _=>NY rs r
    | _=>false:=by simp only[Y,X14 Z];generalize F[i]=c;cases c<;>rfl
   have q4:Y i=false->gM S' w φ' ob' (.d ds[i]) (f i):=by
    intro hp;have:g i=f i:=by simp only[Array.getElem?_ofFn,Z,Xdw,hp] at q3;simpa using q3.symm
    rw[<- this];exact .d _ _ q2
   revert q1 M;generalize F[i]=c;intro q1 M;cases c<;>simp only[vt]<;>simp only at M<;>(try exact q4 M);rename_i r n;split
   ·rename_i k U;have ab:=O2 U;obtain⟨ae,af⟩:=X15.1 ab;obtain⟨e1,e2⟩:=he k ae;rw[af] at e1 e2;cases q1 with|own _ _ _ kk c a0 ag U ah hb=>
    refine .own _ n _ kk c a0 ag U (λe' ai aj f' hx=>?_) λF hx=>?_
    ·obtain⟨g1,g2⟩:=ah e' ai aj f' (e2.symm.trans hx);refine⟨g1,λhn=>?_⟩;have:=g2 hn;unfold IV at *;rwa [e1]
    obtain⟨g1,b,c',g2,g3⟩:=hb F (e2.symm.trans hx);exact⟨g1,b,c',e1.trans g2,g3⟩
   rename_i U;exact q4 (M.trans (Uc U))
  obtain⟨c,ak,J⟩:=AV.qO _ q (by simpa[AV.refs] using hq);obtain⟨i,Q,rfl⟩:=Wr ak;rw[List.getElem_zipWith] at J;revert J;generalize F[i]'(by omega)=c;intro J;cases c<;>simp only[vt] at J<;>(try (simp[AV.refs] at J;done));split at J
  ·rename_i k U;have:=(X15.1 (O2 U)).1;exact⟨k,this,by simpa[AV.refs] using J⟩
  simp[AV.refs] at J
 | _=>exact V.elim
def P9 {obl:I (O OB)} :∀{rs:I Nat} {K:I OB->Prop},Tv obl rs K->∃os,K os/\os.length=rs.length/\∀i (F:i<os.length) (hi':i<rs.length),qw obl rs[i]=some os[i]/\BK os[i]=true
 | [],K,h=>⟨[],h,rfl,λi F=>by simp at F⟩
 | r::rs,K,h=>by
  simp only[Tv,Ax] at h;obtain⟨o,J,h⟩:=h;cases o with
  | row e sz V f=>
   simp only[AD] at h;obtain⟨H,h⟩:=h;obtain⟨os,M,Q,U⟩:=P9 h;refine⟨_,M,by simp[Q],λi F hi'=>?_⟩;cases i with
   | zero=>exact⟨J,H⟩
   | succ i=>exact U i (by simpa using F) (by simpa using hi')
  | _=>exact h.elim
def SQ {obl:I (O OB)}{ob:Nat->O OB}{np:Nat}(m:Mem E w S φ ob)(J:qe (qw obl) ob){x:AV}{v:A}{K:AV->O Nat->Prop}(U:gM S w φ ob x v)(hc:gN (qw obl) x)(h:YX np obl x K) : ∃x' nw wr S',K x' nw/\Mem E w S' φ (Ak ob wr)/\Kept w S φ ob w S' φ (Ak ob wr)/\qe (qw obl) (Ak ob wr)/\(∀q∈wr,np<=q.1)/\ ((nw=none/\gM S' w φ (Ak ob wr) x' v/\gN (qw obl) x'/\∀r∈x'.refs,r<np) \/∃r,nw=some r/\np<=r/\(∀q∈wr,q.1≠r)/\ (∀(φ':Nat->O (Nat×Rp)) (ob':Nat->O OB),φ' np=φ r->ob' np=Ak ob wr r->gM S' w φ' ob' x' v)/\∀q∈x'.refs,q=np):=by
 cases x<;>simp only[YX] at h;case d y=>
  rw[Fv] at h;cases U with|d _ _ U=>
  exact⟨_,_,[],S,h,m,.refl _ _ _ _,J,λq F=>by simp at F,.inl ⟨rfl,.d _ _ U.norm,A5 _ _,λr hr=>by simp[AV.refs] at hr⟩⟩
 case own r n=>
  split at h
  ·rename_i H;exact⟨_,_,[],S,h,m,.refl _ _ _ _,J,λq F=>by simp at F,.inl ⟨rfl,U,hc,λr' M=>by simp only[AV.refs,X13] at M;rw[M];exact X28 H⟩⟩
  rename_i H;have Q:np<=r:=by refine Nat.le_of_not_lt λV=>?_;rw[show Xbv r np=true from Nat.ble_eq_true_of_le V] at H;simp at H
  rcases h with h|h
  ·have Z:=h;simp only[fv,Ax] at Z
   obtain⟨y,wr,S',h1,h2,h3,h4,h5,h6⟩:=EM (K:=λx w=>K (.d x) none/\∀q∈w,np<=q.1) m J U (by
    obtain⟨o,ho,Z⟩:=Z;simp only[fv,Ax];refine⟨o,ho,?_⟩;cases o with
    | box=>exact Z
    | map=>exact Z
    | gone=>exact Z
    | qu=>exact Z
    | row e sz es f=>exact⟨Z.1,Z.2,λq F=>by simp only[X13] at F;rw[F];exact Q⟩)
   exact⟨_,_,wr,S',h1.1,h2,h3,h5,h1.2,.inl ⟨rfl,.d _ _ h4,A5 _ _,λr hr=>by simp[AV.refs] at hr⟩⟩
  refine⟨_,_,[],S,h,m,.refl _ _ _ _,J,λq F=>by simp at F,.inr ⟨r,rfl,Q,λq F=>by simp at F,λφ' ob' e1 e2=>?_,λq F=>by simpa[AV.refs] using F⟩⟩;cases U with|own _ _ _ k c a0 a6 hk a7 H=>
  refine .own _ n _ k c a0 a6 hk (λe' Y es f' J=>?_) λcs J=>?_
  ·obtain⟨g1,g2⟩:=a7 e' Y es f' (e2.symm.trans J);refine⟨g1,λhn=>?_⟩;have:=g2 hn;unfold IV at *;rwa [e1]
  obtain⟨g1,b,c',g2,g3⟩:=H cs (e2.symm.trans J);exact⟨g1,b,c',e1.trans g2,g3⟩
 case agg cs=>obtain⟨y,wr,S',h1,h2,h3,h4,h5,h6⟩:=EM m J U h;rw[AD] at h1;refine⟨_,_,wr,S',h1.2,h2,h3,h5,λq F=>?_,.inl ⟨rfl,.d _ _ h4,A5 _ _,λr hr=>by simp[AV.refs] at hr⟩⟩;have:=h1.1;simp only[Xm] at this;exact X28 (this q F)
 case mp r=>
  split at h
  ·rename_i H;exact⟨_,_,[],S,h,m,.refl _ _ _ _,J,λq F=>by simp at F,.inl ⟨rfl,U,hc,λr' M=>by simp only[AV.refs,X13] at M;rw[M];exact X28 H⟩⟩
  rename_i H;have Q:np<=r:=by refine Nat.le_of_not_lt λV=>?_;rw[show Xbv r np=true from Nat.ble_eq_true_of_le V] at H;simp at H
  refine⟨_,_,[],S,h,m,.refl _ _ _ _,J,λq F=>by simp at F,.inr ⟨r,rfl,Q,λq F=>by simp at F,λφ' ob' e1 e2=>?_,λq F=>by simpa[AV.refs] using F⟩⟩;cases U with|mp _ b c a1 H a8=>
  exact .mp _ b c (e1.trans a1) (λe' Y es f' J=>H e' Y es f' (e2.symm.trans J)) λcs J=>a8 cs (e2.symm.trans J)
 case ref r off=>
  split at h
  ·rename_i H;exact⟨_,_,[],S,h,m,.refl _ _ _ _,J,λq F=>by simp at F,.inl ⟨rfl,U,hc,λr' M=>by simp only[AV.refs,X13] at M;rw[M];exact X28 H⟩⟩
  rename_i H;have Q:np<=r:=by refine Nat.le_of_not_lt λV=>?_;rw[show Xbv r np=true from Nat.ble_eq_true_of_le V] at H;simp at H
  refine⟨_,_,[],S,h,m,.refl _ _ _ _,J,λq F=>by simp at F,.inr ⟨r,rfl,Q,λq F=>by simp at F,λφ' ob' e1 e2=>?_,λq F=>by simpa[AV.refs] using F⟩⟩;cases U with|ref _ _ b c a1 H=>
  exact .ref _ off b c (e1.trans a1) λe' Y es f' J=>H e' Y es f' (e2.symm.trans J)
def Pz {obl:I (O OB)}{np:Nat} :∀{xs:I AV} {Z:I A} {S:Sc} {ob:Nat->O OB} {K:I AV->Prop} (_:Mem E w S φ ob) (_:qe (qw obl) ob) (_:r5 (λx v=>gM S w φ ob x v/\gN (qw obl) x) xs Z) (_:Vs np obl xs K), ∃F wr S',K F/\Mem E w S' φ (Ak ob wr)/\Kept w S φ ob w S' φ (Ak ob wr)/\qe (qw obl) (Ak ob wr)/\(∀q∈wr,np<=q.1)/\r5 (λx v=>gM S' w φ (Ak ob wr) x v/\gN (qw obl) x/\∀r∈x.refs,r<np) F Z
 | [],[],S,ob,K,m,Y,_,h=>⟨[],[],S,h,m,.refl _ _ _ _,Y,λq J=>by simp at J,.nil⟩
 | x::xs,v::Z,S,ob,K,m,Y,Q,h=>by
  cases Q with|cons h1 h2=>
  simp only[Vs] at h;obtain⟨x',nw,wr,S1,hK,m1,k1,U,a1,H⟩:=SQ m Y h1.1 h1.2 h;rcases H with ⟨rfl,r1,r2,r3⟩|⟨r,rfl,_⟩
  ·simp only at hK;have a6 :∀{r:Nat},qw obl r≠none->ob r≠none:=by
    intro r H;rcases Y r with e1|⟨e,sz,es,f,e1,e2⟩
    ·rw[e1];exact H
    rw[e2];simp
   have V :∀{r:Nat},qw obl r≠none->Ak ob wr r≠none:=by
    intro r H;rcases U r with e1|⟨e,sz,es,f,e1,e2⟩
    ·rw[e1];exact H
    rw[e2];simp
   obtain⟨F,a7,S2,g1,g2,g3,g4,g5,g6⟩:=Pz m1 U (h2.imp λa v M=>⟨k1.sF (λr H=>a6 (M.2 r H)) M.1,M.2⟩) hK;refine⟨x'::F,wr++a7,S2,g1,by rw[Ab];exact g2,by rw[Ab];exact k1.trans g3,by rw[Ab];exact g4,λq J=>?_,?_⟩
   ·rcases X22.1 J with J|J
    ·exact a1 q J
    exact g5 q J
   rw[Ab];exact .cons ⟨g3.sF (λr H=>V (r2 r H)) r1,r2,r3⟩ g6
  exact hK.elim
 | [],_::_,_,_,_,_,_,Q,_=>by cases Q
 | _::_,[],_,_,_,_,_,Q,_=>by cases Q
def Ny {ob:Nat->O OB}{idx:I Nat}{gD:I OB}{np:Nat}{x:AV}{v:A}(h:gM S w φ ob x v)(H :∀r∈x.refs,r<np)(J :∀r,r<np->idx[r]?=some r)(K :∀r,r<np->qt gD r=ob r) : gM S w (qZ idx φ) (qt gD) x v:=by refine h.mono (λ_ _ h=>⟨h,rfl⟩) λr F=>.inl ?_;have:=H r F;simp[qZ,J r this,K r this]
def YI {wl : WL}{cx : Cx}(hT : py P cx.T)(hC : QA wl P cx)(hD : Vf wl P cx){f : Xcs}{fn : Func}(hf : P.funcs[f]? = some fn)(ay : fn.name ≠ "runtime.NumGoroutine") {args:I AV} {gD:I OB} {V:AV} {F:I OB} (h:Xv cx fn args gD λr o=>r=V/\o=F):A0 wl P f args gD V F:=by
 obtain⟨bg,h⟩:=h;cases hb:fn.body with
 | none=>simp[hb] at h
 | some c=>
  simp only[hb] at h;refine⟨⟨fn,hf,ay,by rw[hb];rfl⟩,λw S φ gb hg aj qE az bx m=>?_⟩;have ak:qw (Re cx.ex fn args gD).ob=qt gD:=by
   funext r;simp only[qw,Re,qt,Xo];by_cases K:r<gD.length
   ·rw[Xa6 (by simpa using K)];simp[K]
   rw[Xab (by simpa using K)];simp only[X6,List.getElem?_replicate];split<;>simp[show gD.length<=r by omega]
  refine calls_of_wp hf hb (Pq (E:=⟨w,S,IT φ gD.length,wl,gb,hg⟩) (tr:=⟨gD.length,φ,qt gD⟩) hT hC hD bg.symm c h ⟨S,φ,⟨?_,λi Y=>?_,rfl,by rw[ak];exact m⟩,λr K h0=>?_⟩ ?_)
  ·simp[Re,qE]
  ·rw[ak];simp only[Re,Xbp];split
   ·rename_i H;have:=az i H;have e:(aj++Array.replicate (fn.ntmps-aj.size) Xbn).getD i Xbn=aj.getD i Xbn:=by
     have:i<aj.size:=by omega
     simp[Xb3 this]
    rw[e];exact this
   rw[List.getElem_replicate];exact⟨.dead _,FT _⟩
  ·rw[ak];refine⟨by simp only[qt];rw[X14 K];simp,.refl _ _ _⟩
  ·
   intro e st a w' hl hR;obtain⟨S1,a6,hR,b0⟩:=hR;have ah :∀id,e≠.exit id:=λid he=>by subst he;exact hl
   have bz:U7 cx st fn.results.toList (λal=>JW st.ob cx.np 0 λgD=>(match al with
    | [a]=>tj cx.np st.ob (λr o=>r=V/\o=F) a gD
    | al=>Vs cx.np st.ob al λbh=>.qT bh=V/\gD=F)):=by
    cases e with
    | exit id=>exact absurd rfl (ah id)
    | normal=>exact hl
    | ret=>exact hl
   obtain⟨al,us,Z,h2,h3⟩:=J2 hT hR bz;obtain⟨J,Z,Q,aa⟩:=Np Z;simp only[Xaa] at aa;rw[bg] at Q Z;have ae:=P0 h2
   suffices bi :∃v,(results fn a.tmps).run P w'=.ok v w'/\∃S' φ',Mem ⟨w,S,IT φ gD.length,wl,gb,hg⟩ w' S' φ' (qt F)/\Kept w S φ (qt gD) w' S' φ' (qt F)/\gM S' w' φ' (qt F) V v/\gN (qt F) V by
    obtain⟨v,g1,g2⟩:=bi;have:a.defers=[]/\∃v,(results fn a.tmps).run P w'=.ok v w'/\∃v',Ending.returned v=.returned v'/\∃S' φ',Mem ⟨w,S,IT φ gD.length,wl,gb,hg⟩ w' S' φ' (qt F)/\Kept w S φ (qt gD) w' S' φ' (qt F)/\gM S' w' φ' (qt F) V v'/\gN (qt F) V:=
     ⟨hR.df,v,g1,v,rfl,g2⟩
    cases e with
    | exit id=>exact absurd rfl (ah id)
    | normal=>exact this
    | ret=>exact this
   have fin :∀{S':Sc} {ob:Nat->O OB} {idx:I Nat} {x:AV} {v:A} (_:Mem ⟨w,S,IT φ gD.length,wl,gb,hg⟩ w' S' a6 ob) (_ :∀r,r<gD.length->ob r=qw st.ob r) (_:idx.Nodup) (_:idx.length=F.length)
     (_ :∀i (Y:i<idx.length) (af:i<F.length),ob idx[i]=some F[i]/\BK F[i]=true) (_ :∀r,r<gD.length->idx[r]?=some r) (_:OY S1 w' S' w')
     (_:gM S' w' (qZ idx a6) (qt F) x v) (_:gN (qt F) x),∃S' φ',Mem ⟨w,S,IT φ gD.length,wl,gb,hg⟩ w' S' φ' (qt F)/\Kept w S φ (qt gD) w' S' φ' (qt F)/\gM S' w' φ' (qt F) x v/\gN (qt F) x:=by
    intro S' ob idx x v m' ba hn hl ho Y hk hv hc;refine⟨S',_,m'.restrict hn hl ho,⟨λb o hS=>⟨m'.sS b o hS,m'.kS b o hS⟩,λr K=>?_,λr K=>?_⟩,hv,hc⟩
    ·have H:r<gD.length:=by refine Xax λa7=>K ?_;simp[qt,a7]
     obtain⟨q1,q2⟩:=b0 r H (by simp[qt,H]);have e1:qZ idx a6 r=a6 r:=by simp[qZ,Y r H]
     have ar:=(X15.1 (Y r H)).1;have e3:idx[r]=r:=(X15.1 (Y r H)).2;have e2:qt F r=qw st.ob r:=by have:=(ho r ar (by omega)).1;rw[e3,ba r H] at this;rw[this];simp[qt,show r<F.length by omega]
     unfold rA at q2⊢;rw[e1,e2];exact q2
    have H:r<gD.length:=by refine Xax λa7=>K ?_;simp[qt,a7]
    have ar:=(X15.1 (Y r H)).1;simp only[qt];rw[X14 (show r<F.length by omega)];simp
   have cn :∀{ob:Nat->O OB},qe (qw st.ob) ob->∀{wr:W},True:=λ_ {_}=>trivial;have U :∀r,r<gD.length->(Xb2 gD.length)[r]?=some r:=λr K=>by simp[K]
   have M :∀{wr:W} {r:Nat},(∀q∈wr,gD.length<=q.1)->r<gD.length->Ak (qw st.ob) wr r=qw st.ob r:=λhw K=>EY _ _ _ λq hq e=>by have:=hw q hq;omega
   split at Z
   ·
    rename_i x _;cases h3 with|cons hv bb=>
    cases bb;rename_i u
    have Z:(YX gD.length st.ob x λa' nw=>(match nw with
     | none=>a'=V/\J=F
     | some r=>CX st.ob r λo=>match o with
      | .box cs=>HO.cellsD cs λcs=>a'=V/\J++[.box cs]=F
      | .row e sz es bj=>AU (!bj.linked) (a'=V/\J++[.row e sz es bj]=F)
      | .map k e es=>a'=V/\J++[.map k e es]=F
      | .qu ..=>False
      | .gone=>False))\/(∃sz e,x=.d (.nil sz)/\0<sz/\AV.own gD.length 0=V/\J++[.row e sz [] .no]=F) \/
       (∃cs rs,x=.agg cs/\VQ gD.length st.ob rs cs λx=>Tv st.ob rs λos=>x=V/\J++os=F) \/
       ∃r n e sz es,x=.own r n/\r<gD.length/\J[r]?=some (.row e sz es .no)/\AV.own gD.length n=V/\J.set r .gone++[.row e sz es .no]=F:=by
     unfold tj at Z;split at Z
     ·rename_i sz _;rcases Z with Z|⟨h0,e,Z,h2⟩
      ·exact .inl (by simpa[YX,Pi] using Z)
      exact .inr (.inl ⟨sz,e,rfl,h0,Z,h2⟩)
     ·rcases Z with Z|⟨rs,Z⟩
      ·exact .inl Z
      exact .inr (.inr (.inl ⟨_,rs,rfl,Z⟩))
     ·rcases Z with Z|Z
      ·exact .inl Z
      rw[AD] at Z;obtain⟨hb,Z⟩:=Z;split at Z
      ·rename_i e sz es hg;exact .inr (.inr (.inr ⟨_,_,e,sz,es,rfl,X28 hb,hg,Z.1,Z.2⟩))
      exact Z.elim
     exact .inl Z
    rcases Z with Z|⟨sz,e,rfl,h0,rfl,rfl⟩|⟨cs,rs,rfl,h9⟩|⟨r,n,e,sz,es,rfl,cp,bk,rfl,rfl⟩;rotate_right
    ·
     have ai:qw st.ob (st.ob.length+gD.length)=none:=by simp[qw]
     have an:qw st.ob r=some (.row e sz es .no):=by have h2:=(aa r (by omega)).1;rw[X14 (by omega)] at bk;rw[X24 bk] at h2;exact h2
     have bl:=hv.1;cases bl with|own _ _ _ k c a0 c0 hk c3 hb=>
     obtain⟨c4,c5⟩:=c3 e sz es .no an;obtain⟨g0,_,_,g3⟩:=hR.mem.obj r _ an;have hp :∃p:O (Nat×Rp),((p=none/\es=[]) \/∃b c c',a6 r=some (b,c)/\p=some (b,(c',c.2+0*sz))/\es.length<=c'/\0+c'<=c.1)/\p=a6 r:=by
      rcases g3 with ⟨f1,f2⟩|⟨b,aq,vs,f,f1,f2,f3,f4,f5,f6,f7,f8⟩
      ·exact⟨none,.inl ⟨rfl,f2⟩,f1.symm⟩
      exact⟨some (b,(aq.1,aq.2+0*sz)),.inr ⟨b,aq,aq.1,f1,rfl,f3,by omega⟩,by rw[f1];simp⟩
     obtain⟨p,c6,c7⟩:=hp;obtain⟨m1,k1⟩:=hR.mem.tn r (st.ob.length+gD.length) e sz 0 es es p an ai (by omega) (λi Y=>by simp) c6;have bm:=Trk.ok.kept b0 k1;refine⟨_,ae,?_⟩;have ah :∀q,q<gD.length->q≠st.ob.length+gD.length:=λq hq=>by omega
     have ab:(Xb2 gD.length++[st.ob.length+gD.length]).Nodup:=by rw[Xcb];exact⟨List.nodup_range,by simp,λa ha b hb=>by simp at ha hb;omega⟩
     have au :∀i (Y:i<gD.length),qn (qn (qw st.ob) r (some .gone)) (st.ob.length+gD.length) (some (.row e sz es .no)) i=some ((J.set r .gone)[i]'(by simp;omega))/\BK ((J.set r .gone)[i]'(by simp;omega))=true:=λi Y=>by
      rw[AN _ _ _ _ (ah i Y)];by_cases bc:i=r
      ·subst bc;rw[gL];simp[BK]
      rw[AN _ _ _ _ bc,List.getElem_set_ne (Ne.symm bc)];exact aa i (by omega)
     have ao:=m1.restrict (gD:=J.set r .gone++[.row e sz es .no]) ab (by simp[Q]) (λi Y af=>by
      simp only[X10,Xbz,X21] at Y;by_cases H:i<gD.length
      ·rw[Xa9 (by simpa using H),Xa9 (by simp;omega)];simp only[Xcw];exact au i H
      have:i=gD.length:=by omega
      subst this;rw[Xap (by simp),Xap (by simp;omega)];simp only[Xbz,Nat.sub_self,Xao,X20,Q]
      exact⟨gL _ _ _,rfl⟩)
     have a1:qt (J.set r .gone++[.row e sz es .no]) gD.length=some (.row e sz es .no):=by simp only[qt];rw[Xab (by simp;omega)];simp[Q]
     have ap:qZ (Xb2 gD.length++[st.ob.length+gD.length]) (qn (qn a6 r none) (st.ob.length+gD.length) p) gD.length=a6 r:=by simp only[qZ];rw[Xab (by simp)];simp[c7]
     refine⟨S1,_,ao,⟨λb o hS=>⟨m1.sS b o hS,m1.kS b o hS⟩,λq hq=>?_,λq hq=>?_⟩,?_,?_⟩
     ·have H:q<gD.length:=by refine Xax λa7=>hq ?_;simp[qt,a7]
      obtain⟨q1,q2⟩:=bm q H (by simp[qt,H]);have e1:qZ (Xb2 gD.length++[st.ob.length+gD.length]) (qn (qn a6 r none) (st.ob.length+gD.length) p) q=qn (qn a6 r none) (st.ob.length+gD.length) p q:=by simp only[qZ];rw[Xa6 (by simpa using H)];simp[H]
      have e2:qt (J.set r .gone++[.row e sz es .no]) q=qn (qn (qw st.ob) r (some .gone)) (st.ob.length+gD.length) (some (.row e sz es .no)) q:=by rw[(au q H).1];simp only[qt];rw[Xa6 (by simp;omega),X14]
      unfold rA at q2⊢;rw[e1,e2];exact q2
     ·have H:q<gD.length:=by refine Xax λa7=>hq ?_;simp[qt,a7]
      simp only[qt];rw[Xa6 (by simp;omega)];simp[Q,H]
     ·refine .own _ n _ k c a0 c0 hk (λe' c8 c9 f' hx=>?_) λcs hx=>?_
      ·rw[a1] at hx;simp only[X23,OB.row.injEq] at hx;obtain⟨rfl,rfl,rfl,rfl⟩:=hx;refine⟨c4,λhn=>?_⟩;have:=c5 hn;unfold IV at *;rwa [ap]
      rw[a1] at hx;simp at hx
     intro q hq;have:q=gD.length:=by simpa[AV.refs] using hq
     rw[this,a1];simp
    rotate_right
    ·
     obtain⟨x',wr,S',hK,m1,k1,bn,a8,ca,a7,bo,bd⟩:=VD hR.mem (qe.refl _) hv.1 h9;obtain⟨os,⟨rfl,rfl⟩,cb,be⟩:=P9 hK;refine⟨u,ae,?_⟩;have bp :∀q∈wr,gD.length<=q.1:=λq hq=>(a8 q hq).1;have ag :∀k (hk:k<rs.length),(Xb2 gD.length++rs)[gD.length+k]?=some rs[k]:=λk hk=>by rw[Xab (by simp)];simp[hk]
     have bq :∀k (hk:k<rs.length),qt (J++os) (gD.length+k)=some (os[k]'(by omega)):=λk hk=>by simp only[qt];rw[Xab (by omega),Q,Nat.add_sub_cancel_left];simp[show k<os.length by omega]
     have an :∀k (hk:k<rs.length),Ak (qw st.ob) wr rs[k]=some (os[k]'(by omega)):=λk hk=>by rw[EY _ _ _ λq hq e=>(a8 q hq).2 (e▸Wu hk)];exact (be k (by omega) hk).1
     have ab:(Xb2 gD.length++rs).Nodup:=by
      rw[Xcb]
      exact⟨List.nodup_range,ca,λa ha b hb e=>by
       have:=a7 b hb;simp at ha
       omega⟩
     refine fin m1 (λr K=>M bp K) ab (by simp[Q,cb]) (λi Y af=>?_) (λq hq=>?_) k1.k (bo _ _ λk hk=>⟨?_,?_⟩) λq hq=>?_
     ·simp only[X10,Xbz] at Y;by_cases H:i<gD.length
      ·rw[Xa9 (by simpa using H),Xa9 (by omega)];simp only[Xcw];rw[M bp H];exact aa i (by omega)
      rw[Xap (by simp;omega),Xap (by omega)];simp only[Xbz,Q];exact⟨an _ (by omega),(be _ (by omega) (by omega)).2⟩
     ·rw[Xa6 (by simpa using hq)];exact U q hq
     ·simp only[qZ,ag k hk,Xbx]
     ·rw[bq k hk];exact (be k (by omega) hk).1.symm
     obtain⟨k,hk,rfl⟩:=bd q hq;rw[bq k hk];simp
    rotate_left
    ·
     cases hv.1 with|d _ _ hn=>
     cases hn with|nil=>
     have ai:qw st.ob (st.ob.length+gD.length)=none:=by simp[qw]
     obtain⟨m1,k1⟩:=hR.mem.empty (st.ob.length+gD.length) e sz ai h0;refine⟨_,ae,?_⟩;have ah :∀q,q<gD.length->q≠st.ob.length+gD.length:=λq hq=>by omega
     have ba :∀q,q<gD.length->qw st.ob q=qt J q:=λq hq=>by have:=(aa q (by omega)).1;simp only[qw,this,qt];simp[show q<J.length by omega]
     have ab:(Xb2 gD.length++[st.ob.length+gD.length]).Nodup:=by rw[Xcb];exact⟨List.nodup_range,by simp,λa ha b hb=>by simp at ha hb;omega⟩
     have ao:=m1.restrict (gD:=J++[.row e sz [] .no]) ab (by simp[Q]) (λi Y af=>by
      simp only[X10,Xbz,X21] at Y;by_cases H:i<gD.length
      ·rw[Xa9 (by simpa using H),Xa9 (by omega)];simp only[Xcw];rw[AN _ _ _ _ (ah i H)];exact aa i (by omega)
      have:i=gD.length:=by omega
      subst this;rw[Xap (by simp),Xap (by omega)];simp only[Xbz,Nat.sub_self,Xao,Q]
      exact⟨gL _ _ _,rfl⟩)
     have a1:qt (J++[.row e sz [] .no]) gD.length=some (.row e sz [] .no):=by simp only[qt];rw[Xab (by omega)];simp[Q]
     refine⟨S1,_,ao,⟨λb o hS=>⟨m1.sS b o hS,m1.kS b o hS⟩,λr K=>?_,λr K=>?_⟩,?_,?_⟩
     ·have H:r<gD.length:=by refine Xax λa7=>K ?_;simp[qt,a7]
      obtain⟨q1,q2⟩:=b0 r H (by simp[qt,H]);have e1:qZ (Xb2 gD.length++[st.ob.length+gD.length]) (qn a6 (st.ob.length+gD.length) none) r=a6 r:=by simp only[qZ];rw[Xa6 (by simpa using H)];simp[H,AN _ _ _ _ (ah r H)]
      have e2:qt (J++[.row e sz [] .no]) r=qw st.ob r:=by rw[ba r H];simp only[qt];rw[Xa6 (by omega)]
      unfold rA at q2⊢;rw[e1,e2];exact q2
     ·have H:r<gD.length:=by refine Xax λa7=>K ?_;simp[qt,a7]
      simp only[qt];rw[Xa6 (by omega)];simp[Q,H]
     ·refine .own _ 0 _ 0 0 none rfl rfl (λe' c8 c9 f' hx=>?_) λcs hx=>?_
      ·rw[a1] at hx;simp only[X23,OB.row.injEq] at hx;obtain⟨rfl,rfl,rfl,rfl⟩:=hx;refine⟨Xa2 _,λ_=>.inl ⟨?_,rfl,_,rfl⟩⟩;simp only[qZ];rw[Xab (by simp)];simp
      rw[a1] at hx;simp at hx
     intro q hq;have:q=gD.length:=by simpa[AV.refs] using hq
     rw[this,a1];simp
    obtain⟨x',nw,wr,S',hK,m1,k1,bn,a8,K⟩:=SQ hR.mem (qe.refl _) hv.1 hv.2 Z;refine⟨u,ae,?_⟩;rcases K with ⟨rfl,r1,r2,r3⟩|⟨r,rfl,a7,cc,cd,cf⟩
    ·obtain⟨rfl,rfl⟩:=hK;have hO :∀r,r<gD.length->qt J r=Ak (qw st.ob) wr r:=λr K=>by rw[M a8 K];have:=(aa r (by omega)).1;simp only[qw,this,qt];simp[show r<J.length by omega]
     refine fin m1 (λr K=>M a8 K) List.nodup_range (by simp[Q]) (λi Y af=>?_) U k1.k (Ny r1 r3 U hO) λr K=>?_
     ·simp only[Xbz] at Y;simp only[Xcw];rw[M a8 Y];exact aa i af
     rw[hO r (r3 r K),M a8 (r3 r K)];exact r2 r K
    simp only[Ax] at hK;obtain⟨o,ho,hK⟩:=hK;obtain⟨cg,rfl,rfl⟩:BK o=true/\x'=V/\J++[o]=F:=by
     cases o with
     | box cs=>simpa only[Jq] using hK
     | row e sz es f=>exact (AD _ _).1 hK
     | map k e es=>exact⟨rfl,hK⟩
     | qu=>exact hK.elim
     | gone=>exact hK.elim
    have ap:qZ (Xb2 gD.length++[r]) a6 gD.length=a6 r:=by simp only[qZ];rw[Xab (by simp)];simp
    have a1:qt (J++[o]) gD.length=some o:=by simp only[qt];rw[Xab (by omega)];simp[Q]
    have br:Ak (qw st.ob) wr r=some o:=(EY _ _ _ cc).trans ho;have ab:(Xb2 gD.length++[r]).Nodup:=by rw[Xcb];exact⟨List.nodup_range,by simp,λa ha b hb=>by simp at ha hb;omega⟩
    refine fin m1 (λr K=>M a8 K) ab (by simp[Q]) (λi Y af=>?_) (λq hq=>?_) k1.k ?_ λq hq=>?_
    ·simp only[X10,Xbz,X21] at Y;by_cases H:i<gD.length
     ·rw[Xa9 (by simpa using H),Xa9 (by omega)];simp only[Xcw];rw[M a8 H];exact aa i (by omega)
     have:i=gD.length:=by omega
     subst this;rw[Xap (by simp),Xap (by omega)];simp only[Xbz,Nat.sub_self,Xao,Q];exact⟨br,cg⟩
    ·rw[Xa6 (by simpa using hq)];exact U q hq
    ·exact cd _ _ ap (a1.trans br.symm)
    rw[cf q hq,a1];simp
   ·
    rename_i ch;obtain⟨bu,wr,S',hK,m1,k1,bn,a8,K⟩:=Pz hR.mem (qe.refl _) h3 Z;obtain⟨rfl,rfl⟩:=hK;have ax :∀{α β:Type} {l:I α} {k:I β} {R:α->β->Prop},r5 R l k->l.length=k.length:=by
     intro α β l k R h;induction h with
     | nil=>rfl
     | cons _ _ ih=>simp[ih]
    have ag :∀{l:I AV} {k:I A} {R:AV->A->Prop},r5 R l k->∀i (Y:i<l.length),∃v,k[i]?=some v/\R l[i] v:=by
     intro l k R h;induction h with
     | nil=>intro i Y;simp at Y
     | cons h _ ih=>
      intro i Y;cases i with
      | zero=>exact⟨_,rfl,h⟩
      | succ i=>exact ih i (by simpa using Y)
    have cj:us.length≠1:=by
     intro he;have:=ax h3;match al,this with
     | [x],_=>exact ch x rfl
     | [],h=>simp at h;omega
     | _::_::_,h=>simp at h;omega
    have bw:fe us=.tuple us.toArray:=by
     match us,cj with
     | [],_=>rfl
     | [_],h=>exact absurd rfl h
     | _::_::_,_=>rfl
    rw[bw] at ae;refine⟨_,ae,?_⟩;have hO :∀r,r<gD.length->qt J r=Ak (qw st.ob) wr r:=λr K=>by rw[M a8 K];have:=(aa r (by omega)).1;simp only[qw,this,qt];simp[show r<J.length by omega]
    refine fin m1 (λr K=>M a8 K) List.nodup_range (by simp[Q]) (λi Y af=>?_) U k1.k ?_ λr ck=>?_
    ·simp only[Xbz] at Y;simp only[Xcw];rw[M a8 Y];exact aa i af
    ·refine .qT bu _ (λi=>us.getD i Xbn) (by simp[ax K]) (λi Y=>?_) λi Y=>?_
     ·obtain⟨v,q1,_⟩:=ag K i Y;simp[q1]
     obtain⟨v,q1,q2,q3,q4⟩:=ag K i Y;simp only[Xo,q1,Xaw];exact Ny q2 q4 U hO
    obtain⟨c,cm,bf⟩:=AV.qO bu r (by simpa[AV.refs] using ck);obtain⟨j,hj,rfl⟩:=Wr cm;obtain⟨v,q1,q2,q3,q4⟩:=ag K j hj;rw[hO r (q4 r bf),M a8 (q4 r bf)];exact q3 r bf
def XJ (φ:Nat->O (Nat×Rp))(ob:Nat->O OB):Nat->Prop:=λb=>∃r c,ob r≠none/\φ r=some (b,c)
def Mem.here {E:Env}{w:B}{S:Sc}{φ:Nat->O (Nat×Rp)}{ob:Nat->O OB}(m:Mem E w S φ ob) : Mem ⟨w,S,XJ φ ob,E.wl,E.gb,m.ui λ_ h=>h⟩ w S φ ob:=
 ⟨m.obj,m.inj,m.s6,λ_ _ h=>h,λ_ _ _=>rfl,m.bS,λ_ _ h _ _=>h,λ_ _ _=>rfl,Xa2 _,λr b c F H=>⟨(m.ow r b c F H).1,.inr ⟨r,c,F,H⟩⟩,⟨rfl,rfl,rfl,.inr (Xa2 _)⟩⟩
def Mem.trans {E:Env}{w w':B}{S S':Sc}{φ φ':Nat->O (Nat×Rp)}{ob ob':Nat->O OB}(m:Mem E w S φ ob){hg:rQ E.wl E.gb (XJ φ ob) S w}(F:Mem ⟨w,S,XJ φ ob,E.wl,E.gb,hg⟩ w' S' φ' ob') : Mem E w' S' φ' ob':=by
 have K :∀b,b<E.w0.heap.size->¬ E.PB b->¬ XJ φ ob b:=by
  rintro b H J ⟨r,c,U,M⟩;rcases (m.ow r b c U M).2 with h|h
  ·omega
  exact J h
 refine⟨F.obj,F.inj,F.s6,λb o h=>F.sS b o (m.sS b o h),λb o h=>(F.kS b o (m.sS b o h)).trans (m.kS b o h),F.bS,λb o h H J=>?_,λb H J=>?_,Xak m.sz F.sz,λr b c H J=>?_,?_⟩
 ·exact m.nS b o (F.nS b o h (Xaj H m.sz) (K b H J)) H J
 ·exact (F.fr b (Xaj H m.sz) (K b H J)).trans (m.fr b H J)
 ·obtain⟨U,M⟩:=F.ow r b c H J;refine⟨U,?_⟩;rcases M with M|⟨V,Y,Z,h6⟩
  ·exact .inl (Xak m.sz M)
  exact (m.ow V b Y Z h6).2
 obtain⟨a1,a2,a3,Q⟩:=m.os;obtain⟨b1,b2,b3,b4⟩:=F.os;refine⟨b1.trans a1,b2.trans a2,b3.trans a3,?_⟩;rcases Q with Q|Q
 ·exact .inl Q
 rcases b4 with b4|b4
 ·exact .inl b4
 exact .inr (Xak Q b4)
def Ha :∀{ob:I (O OB)} {n:Nat},IL ob n=true->∀r,n<=r->ob.getD r none=none
 | [],_,_,r,_=>by simp
 | _::l,n+1,h,r+1,F=>by simpa using Ha (ob:=l) (n:=n) (by simpa[IL] using h) r (by omega)
 | none::l,0,h,0,_=>by simp
 | none::l,0,h,r+1,_=>by simpa using Ha (ob:=l) (n:=0) (by simpa[IL] using h) r (by omega)
 | some _::_,0,h,_,_=>by simp[IL] at h
def r5.uS {R:AV->A->Prop} :∀{l:I AV} {k:I A},r5 R l k->l.length=k.length/\∀i (F:i<l.length),R l[i] (k.getD i Xbn)
 | _,_,.nil=>⟨rfl,λi F=>by simp at F⟩
 | _,_,.cons h t=>by
  obtain⟨a,b⟩:=r5.uS t;refine⟨by simp[a],λi F=>?_⟩;cases i with
  | zero=>simpa using h
  | succ i=>simpa using b i (by simpa using F)
def Yd {wl : WL}{cx : Cx}(hT : py P cx.T)(hC : QA wl P cx)(hD : Vf wl P cx){f : Xcs}{fn : Func}(hf : P.funcs[f]? = some fn)(Y : fn.name ≠ "runtime.NumGoroutine") {args:I AV} {ob:I (O OB)} {K:AV->I (O OB)->Prop} (h:jD cx fn args ob K):uF wl P f args ob K:=by
 obtain⟨a7,h⟩:=h;cases hb:fn.body with
 | none=>simp[hb] at h
 | some c=>
  simp only[hb] at h;refine⟨⟨fn,hf,Y,by rw[hb];rfl⟩,λE hE w S φ H J m=>?_⟩;subst hE;obtain⟨a8,J⟩:=J.uS;have qE:H.size=args.length:=by simpa using a8.symm
  have m0:=m.here;refine calls_of_wp hf hb (Pq (E:=⟨w,S,XJ φ (λr=>ob.getD r none),E.wl,E.gb,m.ui λ_ h=>h⟩) (tr:=⟨cx.np,φ,λr=>ob.getD r none⟩) hT hC hD rfl c h ⟨S,φ,⟨?_,λi hi=>?_,rfl,m0⟩,λr V h0=>⟨h0,.refl _ _ _⟩⟩ ?_)
  ·simp[qE]
  ·simp only[Xbp];split
   ·rename_i ah;have:=J i ah;have e:(H++Array.replicate (fn.ntmps-H.size) Xbn).getD i Xbn=H.toList.getD i Xbn:=by
     have:i<H.size:=by omega
     simp[Xb3 this]
    rw[e];exact this
   rw[List.getElem_replicate];exact⟨.dead _,FT _⟩
  intro e st a w' hl Z;obtain⟨S1,M,Z,aa⟩:=Z;have ab :∀id,e≠.exit id:=λid he=>by subst he;exact hl
  have ai:U7 cx st fn.results.toList (λF=>(match F with
   | [a]=>K a st.ob
   | F=>K (.qT F) st.ob)):=by
   cases e with
   | exit id=>exact absurd rfl (ab id)
   | normal=>exact hl
   | ret=>exact hl
  obtain⟨F,U,h1,h2,h3⟩:=J2 hT Z ai;have ae:=P0 h2;have af :∃r,K r st.ob/\gM S1 w' M (qw st.ob) r (fe U)/\gN (qw st.ob) r:=by
   have ag :∀{F:I AV} {U:I A},r5 (λx v=>gM S1 w' M (qw st.ob) x v/\gN (qw st.ob) x) F U->gM S1 w' M (qw st.ob) (.qT F) (.tuple U.toArray)/\gN (qw st.ob) (.qT F):=by
    intro F U h;obtain⟨q1,q2⟩:=h.uS;refine⟨.qT F U.toArray (λi=>U.getD i Xbn) (by simp[q1]) (λi hi=>?_) λi hi=>(q2 i hi).1,λr V=>?_⟩
    ·have:i<U.length:=by omega
     simp[this]
    obtain⟨c,aj,ak⟩:=AV.qO F r (by simpa[AV.refs] using V);obtain⟨j,hj,rfl⟩:=Wr aj;exact (q2 j hj).2 r ak
   split at h1
   ·cases h3 with|cons hv a1=>
    cases a1;exact⟨_,h1,hv.1,hv.2⟩
   rename_i hn;obtain⟨q1,q2⟩:=ag h3;refine⟨_,h1,?_,q2⟩;match F,U,h3,hn with
   | [],[],_,_=>exact q1
   | [_],[_],_,hn=>exact absurd rfl (hn _)
   | _::_::_,_::_::_,_,_=>exact q1
  obtain⟨r,g1,g2,g3⟩:=af;have hK:Kept w S φ (λr=>ob.getD r none) w' S1 M (qw st.ob):=by
   refine⟨λb o hS=>⟨Z.mem.sS b o hS,Z.mem.kS b o hS⟩,λr V=>?_,λr V=>?_⟩
   ·refine (aa r (Xax λa6=>V (Ha a7 r a6)) V).2
   exact (aa r (Xax λa6=>V (Ha a7 r a6)) V).1
  have:a.defers=[]/\∃v,(results fn a.tmps).run P w'=.ok v w'/\∃v',Ending.returned v=.returned v'/\∃S' φ' r Q,K r Q/\Mem E w' S' φ' (λr=>Q.getD r none)/\Kept w S φ (λr=>ob.getD r none) w' S' φ' (λr=>Q.getD r none)/\
    gM S' w' φ' (λr=>Q.getD r none) r v'/\gN (λr=>Q.getD r none) r:=
   ⟨Z.df,_,ae,_,rfl,S1,M,r,st.ob,g1,m.trans Z.mem,hK,g2,g3⟩
  cases e with
  | exit id=>exact absurd rfl (ab id)
  | normal=>exact this
  | ret=>exact this
end
end Go.AX
end
