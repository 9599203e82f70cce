/-
  Texts of one proof, packed.
-/
import Derived.Test.YtgbncopbacigiaaGreatDoorD10
set_option linter.all false
set_option maxRecDepth 100000
set_option maxHeartbeats 4000000
open List renaming length_map→X10,length_append→X11,mem_singleton→X14,getElem?_eq_getElem→X15,getElem?_eq_some_iff→X16,length_drop→X17,length_take→X18,length_replicate→X20,length_set→X21,length_singleton→X22,mem_append→X23
open Option.some renaming injEq→X24,inj→X25
open Bool renaming and_eq_true→X27
open Nat renaming le_of_ble_eq_true→X29,eq_of_beq_eq_true→X30
open List renaming range→Xb4
open Go.Result renaming andThen_ok→Xa1
open Go renaming undef→Xc3,FuncId→Xcx
open Nat renaming blt→Xbr
open Go.Sem renaming run_bind→Xa9,run_pure→Xbz
open Go.Instr renaming sureAddr→Xbu,loadAt→Xcg
section
namespace Go.AX
section
variable {P:Program} {E:Env} {tr:Trk} {w:B} {S:Sc} {φ:Nat->C (Nat×Rp)}
def eO (tmps:Array A):ResultVar->Sem A
 | .tmp t=>pure (tmps.getD t Xc3)
 | .cell a t=>do loadVar t (← asAddr (tmps.getD a Xc3))
def ef:O A->A
 | [u]=>u
 | F=>.tuple F.toArray
def YF (fn:Func)(tmps:Array A):results fn tmps=(do
  let vs ← fn.results.mapM (eO tmps)
  pure (if h:vs.size=1 then vs[0] else .tuple vs)):=by
 unfold results;congr 2
def OV {fn:Func}{tmps:Array A}{F:O A}(h:(fn.results.toList.mapM (eO tmps)).run P w=.ok F w):(results fn tmps).run P w=.ok (ef F) w:=by
 rw[YF,Array.mapM_eq_mapM_toList];simp only[Xa9,Sem.run_map,h,Xa1,Xbz];match F with
 | []=>rfl
 | [u]=>rfl
 | u::v::F=>rfl
def JG {cx:Cx}(Q:rc P cx.T){st:r9}{a:Act}(J:R E st a w S φ) :∀{rs:O ResultVar} {K:O AV->Prop},Tc cx st rs K-> ∃F H,K F/\(rs.mapM (eO a.tmps)).run P w=.ok H w/\sA (λx v=>gM S w φ (rP st.ob) x v/\gO (rP st.ob) x) F H
 | [],K,h=>⟨[],[],h,rfl,.nil⟩
 | .tmp t::rs,K,h=>by simp only[Tc,BH] at h;obtain⟨F,H,U,V,Y⟩:=JG Q J h;refine⟨_,a.tmps.getD t Xc3::H,U,?_,.cons (J.av (.tmp t)) Y⟩;simp[List.mapM_cons,eO,V]
 | .cell p ty::rs,K,h=>by
  simp only[Tc] at h;have hp:=J.av (.tmp p);simp only[uc] at hp;split at h
  ·rename_i r off hr;rw[hr] at hp;obtain⟨out,u,U,V,Y,h4⟩:=OJ Q J.mem hp.1 hp.2 h;obtain⟨F,H,g1,g2,g3⟩:=JG Q J U;refine⟨_,u::H,g1,?_,.cons ⟨Y,h4⟩ g3⟩;obtain⟨b,c,_,M⟩:=hp.1.vV;have M:a.tmps.getD p Xc3=.pointer (some ⟨b,off,none⟩):=M;have Z:(loadVar ty ⟨b,off,none⟩).run P w=.ok u w:=by have:(Xcg ty (a.tmps.getD p Xc3)).run P w=.ok u w:=V;rw[M] at this;simpa[Xcg,Xbu] using this
   simp only[List.mapM_cons,eO,M,asAddr,Xa9,Xbz,Xa1,Z,g2]
  exact h.elim
def Mem.restrict {ob:Nat->C OB}(m:Mem E w S φ ob){idx:O Nat}{gF:O OB}(Z:idx.Nodup)(hl:idx.length=gF.length) (H :∀i (F:i<idx.length) (hi':i<gF.length),ob idx[i]=some gF[i]/\A4 gF[i]=true):Mem E w S (sy idx φ) (rY gF):=by
 have get :∀{i:Nat},rY gF i≠none->∃F:i<idx.length,ob idx[i]≠none/\sy idx φ i=φ idx[i]:=by
  intro i h;have F:i<idx.length:=by refine Xaz λa1=>h ?_;simp[rY,show gF.length<=i by omega]
  refine⟨F,?_,by simp[sy,F]⟩;rw[(H i F (by omega)).1];simp
 refine⟨λi o h=>?_,λi j b c c' Q J U V=>?_,λi o h r' Y=>?_,m.sS,m.kS,m.bS,m.nS,m.fr,m.sz,λi b c h g=>?_,m.os⟩
 ·obtain⟨F,Q,J⟩:=get (i:=i) (by simp[h]);have e1:gF[i]=o:=by simpa[rY,show i<gF.length by omega] using h
  rw[<- e1];exact (m.obj _ _ (H i F (by omega)).1).rename (H i F (by omega)).2 J
 ·obtain⟨F,K,M⟩:=get Q;obtain⟨hj,q1,q2⟩:=get J;rw[M] at U;rw[q2] at V;exact (List.getElem_inj Z).1 (m.inj _ _ b c c' K q1 U V)
 ·obtain⟨F,_,_⟩:=get (i:=i) (by simp[h]);have e1:gF[i]=o:=by simpa[rY,show i<gF.length by omega] using h
  rw[<- e1,I9 (H i F (by omega)).2] at Y;simp at Y
 obtain⟨F,K,M⟩:=get h;exact m.ow _ b c K (M▸g)
def L6 {obl:O (C OB)} :∀{n i:Nat} {K:O OB->Prop},Ir obl n i K->∃gF,K gF/\gF.length=n/\∀j (H:j<gF.length),obl.getD (i+j) none=some gF[j]/\A4 gF[j]=true
 | 0,i,K,h=>⟨[],h,rfl,λj H=>by simp at H⟩
 | n+1,i,K,h=>by
  simp only[Ir,An] at h;obtain⟨o,F,h⟩:=h;have go :∀{o:OB},obl.getD i none=some o->A4 o=true->Ir obl n (i+1) (λl=>K (o::l))->∃gF,K gF/\gF.length=n+1/\∀j (H:j<gF.length),obl.getD (i+j) none=some gF[j]/\A4 gF[j]=true:=by
   intro o F J h;obtain⟨gF,M,Q,U⟩:=L6 h;refine⟨o::gF,M,by simp[Q],λj H=>?_⟩;cases j with
   | zero=>exact⟨F,J⟩
   | succ j=>have:=U j (by simpa using H);rw[show i+1+j=i+(j+1) by omega] at this;exact this
  cases o with
  | box Y=>simp only[I6] at h;exact go F h.1 h.2
  | row e sz V f=>simp only[AH] at h;exact go F h.1 h.2
  | gone=>exact go F rfl h
  | rK=>exact h.elim
  | map k e V=>exact go F rfl h
def Nl :∀{rs:O Nat} {r k:Nat},Ui rs r=some k->rs[k]?=some r
 | [],r,k,h=>by simp[Ui] at h
 | x::rs,r,k,h=>by
  simp only[Ui] at h;split at h
  ·rename_i F;simp only[X24] at h;subst h;simp[X30 F]
  split at h
  ·rename_i J H;simp only[X24] at h;subst h;simpa using Nl H
  simp at h
def Sv :∀{rs:O Nat} {r:Nat},Ui rs r=none->Lt rs r=false
 | [],r,_=>rfl
 | x::rs,r,h=>by
  simp only[Ui] at h;split at h
  ·simp at h
  rename_i F;split at h
  ·simp at h
  rename_i H;simp only[Lt,F,Sv H,Bool.or_self]
def ya (rs:O Nat):AV->AV
 | .own r n=>(match Lt rs r with
  | true=>.d (.nil 1)
  | false=>.own r n)
 | a=>a
def PO (rs:O Nat) :∀F:O AV,Nr rs F=F.map (ya rs)
 | []=>rfl
 | c::F=>by cases c<;>simp only[Nr,Xam,PO rs F]<;>rfl
def xi (np:Nat)(rs:O Nat):AV->D->AV
 | .own r n,d=>(match Ui rs r with
  | some k=>.own (np+k) n
  | none=>.d d)
 | _,d=>.d d
def U2 (np:Nat)(rs:O Nat) :∀(F:O AV) (H:O D),X4 np rs F H=List.zipWith (xi np rs) F H
 | [],H=>by simp[X4]
 | c::F,[]=>by cases c<;>simp[X4]
 | c::F,d::H=>by cases c<;>simp only[X4,List.zipWith_cons_cons,U2 np rs F H]<;>rfl
def Tm {obl:O (C OB)}{ob:Nat->C OB}{np:Nat}{rs:O Nat}(m:Mem E w S φ ob)(hx:rl (rP obl) ob){F:O AV}{v:A}{K:AV->Prop}(hv:gM S w φ ob (.agg F) v)(h:UC np obl rs F K) : ∃x' wr S',K x'/\Mem E w S' φ (Ag ob wr)/\Kept w S φ ob w S' φ (Ag ob wr)/\rl (rP obl) (Ag ob wr)/\(∀q∈wr,np<=q.1/\q.1∉rs)/\rs.Nodup/\(∀r∈rs,np<=r)/\ (∀(φ':Nat->C (Nat×Rp)) (ob':Nat->C OB),(∀k (U:k<rs.length),φ' (np+k)=φ rs[k]/\ob' (np+k)=ob rs[k])->gM S' w φ' ob' x' v)/\∀q∈x'.refs,∃k,k<rs.length/\q=np+k:=by
 unfold UC at h;rw[AH] at h;obtain⟨h0,h⟩:=h;simp only[X27,Wo] at h0;cases hv with|agg _ vs f hs hf a1 a6=>
 let Y:Nat->I:=λi=>match F[i]? with
  | some (.own r _)=>Lt rs r
  | _=>false
 have a7:gM S w φ ob (.agg (Nr rs F)) (.agg (Array.ofFn (n:=F.length) λi=>if Y i then .slice none 0 0 else f i)):=by
  rw[PO];refine .agg _ _ (λi=>if Y i then .slice none 0 0 else f i) (by simp) (λi Q=>?_) (λi Q=>?_) λi Q=>?_
  ·have Q:i<F.length:=by simpa using Q
   simp[Q]
  ·have H:i<F.length:=by simpa using Q
   rw[Xas];have:=a1 i H;revert this;generalize F[i]=c;intro this;cases c<;>simp only[ya]<;>first|exact this|(split<;>first|rfl|exact this)
  have H:i<F.length:=by simpa using Q
  rw[Xas];have V:=a6 i H;have M:Y i=match F[i] with
   | .own r _=>Lt rs r
   | _=>false:=by simp only[Y,X15 H];generalize F[i]=c;cases c<;>rfl
  revert V M;generalize F[i]=c;intro V M;cases c<;>simp only[ya]<;>simp only at M<;>(try (rw[Xj (by simp[M])];exact V));rename_i r n;cases hb:Lt rs r with
  | true=>rw[Xy (by rw[M,hb])];exact .d _ _ (.nil 1)
  | false=>rw[Xj (by rw[M,hb];simp)];exact V
 obtain⟨y,wr,S',V,M,h3,h4,h5,h6⟩:=D8 m hx a7 h;cases y with
 | agg ds=>
  simp only[AH] at V;obtain⟨hw,hK⟩:=V;have aa :∀q∈wr,np<=q.1/\q.1∉rs:=λq hq=>by have:=Wo.1 hw q hq;simp only[X27,Xb7] at this;exact⟨X29 this.1,λe=>by rw[Wb.2 e] at this;simp at this⟩
  cases h4 with|agg _ _ g gs gf gn gr=>
  have a8:ds.length=F.length:=by simpa using gs.symm
  rw[U2] at hK;have al:(List.zipWith (xi np rs) F ds).length=F.length:=by simp[a8]
  refine⟨_,wr,S',hK,M,h3,h5,aa,P9 h0.1,λr hr=>X29 (h0.2 r hr),λφ' ob' he=>?_,λq hq=>?_⟩
  ·refine .agg _ _ f (by omega) (λi Q=>hf i (by omega)) (λi Q=>?_) λi Q=>?_
   ·have H:i<ds.length:=by omega
    rw[List.getElem_zipWith];have hn:=gn i H;generalize F[i]'(by omega)=c;have hd :∀d:D,d.isAgg=false->(AV.d d).one=true:=λd hd=>by simp[AV.one,hd]
    cases c<;>simp only[xi]<;>first|exact hd _ hn|(split<;>first|rfl|exact hd _ hn)
   have H:i<ds.length:=by omega
   have Z:i<F.length:=by omega
   rw[List.getElem_zipWith];have q1:=a6 i Z;have q2:=gr i H;have q3:=gf i H;have M:Y i=match F[i] with
    | .own r _=>Lt rs r
    | _=>false:=by simp only[Y,X15 Z];generalize F[i]=c;cases c<;>rfl
   have q4:Y i=false->gM S' w φ' ob' (.d ds[i]) (f i):=by
    intro hp;have:g i=f i:=by simp only[Array.getElem?_ofFn,Z,dif_pos,hp] at q3;simpa using q3.symm
    rw[<- this];exact .d _ _ q2
   revert q1 M;generalize F[i]=c;intro q1 M;cases c<;>simp only[xi]<;>simp only at M<;>(try exact q4 M);rename_i r n;split
   ·rename_i k U;have ab:=Nl U;obtain⟨ae,af⟩:=X16.1 ab;obtain⟨e1,e2⟩:=he k ae;rw[af] at e1 e2;cases q1 with|own _ _ _ kk c a0 ag U ah hb=>
    refine .own _ n _ kk c a0 ag U (λe' ai aj f' hx=>?_) λF hx=>?_
    ·obtain⟨g1,g2⟩:=ah e' ai aj f' (e2.symm.trans hx);refine⟨g1,λhn=>?_⟩;have:=g2 hn;unfold Hy at *;rwa [e1]
    obtain⟨g1,b,c',g2,g3⟩:=hb F (e2.symm.trans hx);exact⟨g1,b,c',e1.trans g2,g3⟩
   rename_i U;exact q4 (M.trans (Sv U))
  obtain⟨c,ak,J⟩:=AV.sf _ q (by simpa[AV.refs] using hq);obtain⟨i,Q,rfl⟩:=Wz ak;rw[List.getElem_zipWith] at J;revert J;generalize F[i]'(by omega)=c;intro J;cases c<;>simp only[xi] at J<;>(try (simp[AV.refs] at J;done));split at J
  ·rename_i k U;have:=(X16.1 (Nl U)).1;exact⟨k,this,by simpa[AV.refs] using J⟩
  simp[AV.refs] at J
 | _=>exact V.elim
def Og {obl:O (C OB)} :∀{rs:O Nat} {K:O OB->Prop},R7 obl rs K->∃os,K os/\os.length=rs.length/\∀i (F:i<os.length) (hi':i<rs.length),rP obl rs[i]=some os[i]/\A4 os[i]=true
 | [],K,h=>⟨[],h,rfl,λi F=>by simp at F⟩
 | r::rs,K,h=>by
  simp only[R7,An] at h;obtain⟨o,J,h⟩:=h;cases o with
  | row e sz V f=>
   simp only[AH] at h;obtain⟨H,h⟩:=h;obtain⟨os,M,Q,U⟩:=Og h;refine⟨_,M,by simp[Q],λi F hi'=>?_⟩;cases i with
   | zero=>exact⟨J,H⟩
   | succ i=>exact U i (by simpa using F) (by simpa using hi')
  | _=>exact h.elim
def Qi {obl:O (C OB)}{ob:Nat->C OB}{np:Nat}(m:Mem E w S φ ob)(J:rl (rP obl) ob){x:AV}{v:A}{K:AV->C Nat->Prop}(U:gM S w φ ob x v)(hc:gO (rP obl) x)(h:Xt np obl x K) : ∃x' nw wr S',K x' nw/\Mem E w S' φ (Ag ob wr)/\Kept w S φ ob w S' φ (Ag ob wr)/\rl (rP obl) (Ag ob wr)/\(∀q∈wr,np<=q.1)/\ ((nw=none/\gM S' w φ (Ag ob wr) x' v/\gO (rP obl) x'/\∀r∈x'.refs,r<np) \/∃r,nw=some r/\np<=r/\(∀q∈wr,q.1≠r)/\ (∀(φ':Nat->C (Nat×Rp)) (ob':Nat->C OB),φ' np=φ r->ob' np=Ag ob wr r->gM S' w φ' ob' x' v)/\∀q∈x'.refs,q=np):=by
 cases x<;>simp only[Xt] at h;case d y=>
  rw[FY] at h;cases U with|d _ _ U=>
  exact⟨_,_,[],S,h,m,.refl _ _ _ _,J,λq F=>by simp at F,.inl ⟨rfl,.d _ _ U.norm,A1 _ _,λr hr=>by simp[AV.refs] at hr⟩⟩
 case own r n=>
  split at h
  ·rename_i H;exact⟨_,_,[],S,h,m,.refl _ _ _ _,J,λq F=>by simp at F,.inl ⟨rfl,U,hc,λr' M=>by simp only[AV.refs,X14] at M;rw[M];exact X29 H⟩⟩
  rename_i H;have Q:np<=r:=by refine Nat.le_of_not_lt λV=>?_;rw[show Xbr r np=true from Nat.ble_eq_true_of_le V] at H;simp at H
  rcases h with h|h
  ·have Z:=h;simp only[cW,An] at Z
   obtain⟨y,wr,S',h1,h2,h3,h4,h5,h6⟩:=D8 (K:=λx w=>K (.d x) none/\∀q∈w,np<=q.1) m J U (by
    obtain⟨o,ho,Z⟩:=Z;simp only[cW,An];refine⟨o,ho,?_⟩;cases o with
    | box=>exact Z
    | map=>exact Z
    | gone=>exact Z
    | rK=>exact Z
    | row e sz es f=>exact⟨Z.1,Z.2,λq F=>by simp only[X14] at F;rw[F];exact Q⟩)
   exact⟨_,_,wr,S',h1.1,h2,h3,h5,h1.2,.inl ⟨rfl,.d _ _ h4,A1 _ _,λr hr=>by simp[AV.refs] at hr⟩⟩
  refine⟨_,_,[],S,h,m,.refl _ _ _ _,J,λq F=>by simp at F,.inr ⟨r,rfl,Q,λq F=>by simp at F,λφ' ob' e1 e2=>?_,λq F=>by simpa[AV.refs] using F⟩⟩;cases U with|own _ _ _ k c a0 a6 hk a7 H=>
  refine .own _ n _ k c a0 a6 hk (λe' Y es f' J=>?_) λcs J=>?_
  ·obtain⟨g1,g2⟩:=a7 e' Y es f' (e2.symm.trans J);refine⟨g1,λhn=>?_⟩;have:=g2 hn;unfold Hy at *;rwa [e1]
  obtain⟨g1,b,c',g2,g3⟩:=H cs (e2.symm.trans J);exact⟨g1,b,c',e1.trans g2,g3⟩
 case agg cs=>obtain⟨y,wr,S',h1,h2,h3,h4,h5,h6⟩:=D8 m J U h;rw[AH] at h1;refine⟨_,_,wr,S',h1.2,h2,h3,h5,λq F=>?_,.inl ⟨rfl,.d _ _ h4,A1 _ _,λr hr=>by simp[AV.refs] at hr⟩⟩;have:=h1.1;simp only[Wo] at this;exact X29 (this q F)
 case mp r=>
  split at h
  ·rename_i H;exact⟨_,_,[],S,h,m,.refl _ _ _ _,J,λq F=>by simp at F,.inl ⟨rfl,U,hc,λr' M=>by simp only[AV.refs,X14] at M;rw[M];exact X29 H⟩⟩
  rename_i H;have Q:np<=r:=by refine Nat.le_of_not_lt λV=>?_;rw[show Xbr r np=true from Nat.ble_eq_true_of_le V] at H;simp at H
  refine⟨_,_,[],S,h,m,.refl _ _ _ _,J,λq F=>by simp at F,.inr ⟨r,rfl,Q,λq F=>by simp at F,λφ' ob' e1 e2=>?_,λq F=>by simpa[AV.refs] using F⟩⟩;cases U with|mp _ b c a1 H a8=>
  exact .mp _ b c (e1.trans a1) (λe' Y es f' J=>H e' Y es f' (e2.symm.trans J)) λcs J=>a8 cs (e2.symm.trans J)
 case ref r off=>
  split at h
  ·rename_i H;exact⟨_,_,[],S,h,m,.refl _ _ _ _,J,λq F=>by simp at F,.inl ⟨rfl,U,hc,λr' M=>by simp only[AV.refs,X14] at M;rw[M];exact X29 H⟩⟩
  rename_i H;have Q:np<=r:=by refine Nat.le_of_not_lt λV=>?_;rw[show Xbr r np=true from Nat.ble_eq_true_of_le V] at H;simp at H
  refine⟨_,_,[],S,h,m,.refl _ _ _ _,J,λq F=>by simp at F,.inr ⟨r,rfl,Q,λq F=>by simp at F,λφ' ob' e1 e2=>?_,λq F=>by simpa[AV.refs] using F⟩⟩;cases U with|ref _ _ b c a1 H=>
  exact .ref _ off b c (e1.trans a1) λe' Y es f' J=>H e' Y es f' (e2.symm.trans J)
def OU {obl:O (C OB)}{np:Nat} :∀{xs:O AV} {vs:O A} {S:Sc} {ob:Nat->C OB} {K:O AV->Prop} (_:Mem E w S φ ob) (_:rl (rP obl) ob) (_:sA (λx v=>gM S w φ ob x v/\gO (rP obl) x) xs vs) (_:Uc np obl xs K), ∃F wr S',K F/\Mem E w S' φ (Ag ob wr)/\Kept w S φ ob w S' φ (Ag ob wr)/\rl (rP obl) (Ag ob wr)/\(∀q∈wr,np<=q.1)/\sA (λx v=>gM S' w φ (Ag ob wr) x v/\gO (rP obl) x/\∀r∈x.refs,r<np) F vs
 | [],[],S,ob,K,m,Y,_,h=>⟨[],[],S,h,m,.refl _ _ _ _,Y,λq J=>by simp at J,.nil⟩
 | x::xs,v::vs,S,ob,K,m,Y,Q,h=>by
  cases Q with|cons h1 h2=>
  simp only[Uc] at h;obtain⟨x',nw,wr,S1,Z,m1,k1,U,a1,H⟩:=Qi m Y h1.1 h1.2 h;rcases H with ⟨rfl,r1,r2,r3⟩|⟨r,rfl,_⟩
  ·simp only at Z;have a6 :∀{r:Nat},rP obl r≠none->ob r≠none:=by
    intro r H;rcases Y r with e1|⟨e,sz,es,f,e1,e2⟩
    ·rw[e1];exact H
    rw[e2];simp
   have V :∀{r:Nat},rP obl r≠none->Ag ob wr r≠none:=by
    intro r H;rcases U r with e1|⟨e,sz,es,f,e1,e2⟩
    ·rw[e1];exact H
    rw[e2];simp
   obtain⟨F,a7,S2,g1,g2,g3,g4,g5,g6⟩:=OU m1 U (h2.imp λa v M=>⟨k1.tZ (λr H=>a6 (M.2 r H)) M.1,M.2⟩) Z;refine⟨x'::F,wr++a7,S2,g1,by rw[AU];exact g2,by rw[AU];exact k1.trans g3,by rw[AU];exact g4,λq J=>?_,?_⟩
   ·rcases X23.1 J with J|J
    ·exact a1 q J
    exact g5 q J
   rw[AU];exact .cons ⟨g3.tZ (λr H=>V (r2 r H)) r1,r2,r3⟩ g6
  exact Z.elim
 | [],_::_,_,_,_,_,_,Q,_=>by cases Q
 | _::_,[],_,_,_,_,_,Q,_=>by cases Q
def MK {ob:Nat->C OB}{idx:O Nat}{gF:O OB}{np:Nat}{x:AV}{v:A}(h:gM S w φ ob x v)(H :∀r∈x.refs,r<np)(J :∀r,r<np->idx[r]?=some r)(K :∀r,r<np->rY gF r=ob r) : gM S w (sy idx φ) (rY gF) x v:=by refine h.mono (λ_ _ h=>⟨h,rfl⟩) λr F=>.inl ?_;have:=H r F;simp[sy,J r this,K r this]
def Xc {wl : WL}{cx : Cx}(hT : rc P cx.T)(hC : Oi wl P cx)(hD : UT wl P cx){f : Xcx}{fn : Func}(hf : P.funcs[f]? = some fn)(ay : fn.name ≠ "runtime.NumGoroutine") {args:O AV} {gF:O OB} {V:AV} {F:O OB} (h:XC cx fn args gF λr o=>r=V/\o=F):Bj wl P f args gF V F:=by
 obtain⟨bg,h⟩:=h;cases hb:fn.body with
 | none=>simp[hb] at h
 | some c=>
  simp only[hb] at h;refine⟨⟨fn,hf,ay,by rw[hb];rfl⟩,λw S φ gb hg aj s7 az bx m=>?_⟩;have ak:rP (QF cx.ex fn args gF).ob=rY gF:=by
   funext r;simp only[rP,QF,rY,Wq];by_cases K:r<gF.length
   ·rw[Ww (by simpa using K)];simp[K]
   rw[Xa4 (by simpa using K)];simp only[X10,List.getElem?_replicate];split<;>simp[show gF.length<=r by omega]
  refine calls_of_wp hf hb (OR (E:=⟨w,S,Js φ gF.length,wl,gb,hg⟩) (tr:=⟨gF.length,φ,rY gF⟩) hT hC hD bg.symm c h ⟨S,φ,⟨?_,λi Y=>?_,rfl,by rw[ak];exact m⟩,λr K h0=>?_⟩ ?_)
  ·simp[QF,s7]
  ·rw[ak];simp only[QF,Xbs];split
   ·rename_i H;have:=az i H;have e:(aj++Array.replicate (fn.ntmps-aj.size) Xc3).getD i Xc3=aj.getD i Xc3:=by
     have:i<aj.size:=by omega
     simp[Array.getElem?_append_left this]
    rw[e];exact this
   rw[List.getElem_replicate];exact⟨.dead _,FB _⟩
  ·rw[ak];refine⟨by simp only[rY];rw[X15 K];simp,.refl _ _ _⟩
  ·
   intro e st a w' hl hR;obtain⟨S1,a6,hR,b0⟩:=hR;have ah :∀id,e≠.exit id:=λid he=>by subst he;exact hl
   have bz:Tc cx st fn.results.toList (λal=>Ir st.ob cx.np 0 λgF=>(match al with
    | [a]=>uH cx.np st.ob (λr o=>r=V/\o=F) a gF
    | al=>Uc cx.np st.ob al λbh=>.sH bh=V/\gF=F)):=by
    cases e with
    | exit id=>exact absurd rfl (ah id)
    | normal=>exact hl
    | ret=>exact hl
   obtain⟨al,us,Z,h2,h3⟩:=JG hT hR bz;obtain⟨J,Z,Q,aa⟩:=L6 Z;simp only[Xan] at aa;rw[bg] at Q Z;have ae:=OV h2
   suffices bi :∃v,(results fn a.tmps).run P w'=.ok v w'/\∃S' φ',Mem ⟨w,S,Js φ gF.length,wl,gb,hg⟩ w' S' φ' (rY F)/\Kept w S φ (rY gF) w' S' φ' (rY F)/\gM S' w' φ' (rY F) V v/\gO (rY F) V by
    obtain⟨v,g1,g2⟩:=bi;have:a.defers=[]/\∃v,(results fn a.tmps).run P w'=.ok v w'/\∃v',Ending.returned v=.returned v'/\∃S' φ',Mem ⟨w,S,Js φ gF.length,wl,gb,hg⟩ w' S' φ' (rY F)/\Kept w S φ (rY gF) w' S' φ' (rY F)/\gM S' w' φ' (rY F) V v'/\gO (rY F) V:=
     ⟨hR.df,v,g1,v,rfl,g2⟩
    cases e with
    | exit id=>exact absurd rfl (ah id)
    | normal=>exact this
    | ret=>exact this
   have fin :∀{S':Sc} {ob:Nat->C OB} {idx:O Nat} {x:AV} {v:A} (_:Mem ⟨w,S,Js φ gF.length,wl,gb,hg⟩ w' S' a6 ob) (_ :∀r,r<gF.length->ob r=rP st.ob r) (_:idx.Nodup) (_:idx.length=F.length)
     (_ :∀i (Y:i<idx.length) (af:i<F.length),ob idx[i]=some F[i]/\A4 F[i]=true) (_ :∀r,r<gF.length->idx[r]?=some r) (_:Q9 S1 w' S' w')
     (_:gM S' w' (sy idx a6) (rY F) x v) (_:gO (rY F) x),∃S' φ',Mem ⟨w,S,Js φ gF.length,wl,gb,hg⟩ w' S' φ' (rY F)/\Kept w S φ (rY gF) w' S' φ' (rY F)/\gM S' w' φ' (rY F) x v/\gO (rY F) x:=by
    intro S' ob idx x v m' ba hn hl ho Y hk hv hc;refine⟨S',_,m'.restrict hn hl ho,⟨λb o hS=>⟨m'.sS b o hS,m'.kS b o hS⟩,λr K=>?_,λr K=>?_⟩,hv,hc⟩
    ·have H:r<gF.length:=by refine Xaz λa7=>K ?_;simp[rY,a7]
     obtain⟨q1,q2⟩:=b0 r H (by simp[rY,H]);have e1:sy idx a6 r=a6 r:=by simp[sy,Y r H]
     have ar:=(X16.1 (Y r H)).1;have e3:idx[r]=r:=(X16.1 (Y r H)).2;have e2:rY F r=rP st.ob r:=by have:=(ho r ar (by omega)).1;rw[e3,ba r H] at this;rw[this];simp[rY,show r<F.length by omega]
     unfold sW at q2⊢;rw[e1,e2];exact q2
    have H:r<gF.length:=by refine Xaz λa7=>K ?_;simp[rY,a7]
    have ar:=(X16.1 (Y r H)).1;simp only[rY];rw[X15 (show r<F.length by omega)];simp
   have ck :∀{ob:Nat->C OB},rl (rP st.ob) ob->∀{wr:W},True:=λ_ {_}=>trivial;have U :∀r,r<gF.length->(Xb4 gF.length)[r]?=some r:=λr K=>by simp[K]
   have M :∀{wr:W} {r:Nat},(∀q∈wr,gF.length<=q.1)->r<gF.length->Ag (rP st.ob) wr r=rP st.ob r:=λhw K=>EG _ _ _ λq hq e=>by have:=hw q hq;omega
   split at Z
   ·
    rename_i x _;cases h3 with|cons hv bb=>
    cases bb;rename_i u
    have Z:(Xt gF.length st.ob x λa' nw=>(match nw with
     | none=>a'=V/\J=F
     | some r=>CC st.ob r λo=>match o with
      | .box cs=>G8.cellsD cs λcs=>a'=V/\J++[.box cs]=F
      | .row e sz es bj=>AS (!bj.linked) (a'=V/\J++[.row e sz es bj]=F)
      | .map k e es=>a'=V/\J++[.map k e es]=F
      | .rK ..=>False
      | .gone=>False))\/(∃sz e,x=.d (.nil sz)/\0<sz/\AV.own gF.length 0=V/\J++[.row e sz [] .no]=F) \/
       (∃cs rs,x=.agg cs/\UC gF.length st.ob rs cs λx=>R7 st.ob rs λos=>x=V/\J++os=F) \/
       ∃r n e sz es,x=.own r n/\r<gF.length/\J[r]?=some (.row e sz es .no)/\AV.own gF.length n=V/\J.set r .gone++[.row e sz es .no]=F:=by
     unfold uH at Z;split at Z
     ·rename_i sz _;rcases Z with Z|⟨h0,e,Z,h2⟩
      ·exact .inl (by simpa[Xt,OO] using Z)
      exact .inr (.inl ⟨sz,e,rfl,h0,Z,h2⟩)
     ·rcases Z with Z|⟨rs,Z⟩
      ·exact .inl Z
      exact .inr (.inr (.inl ⟨_,rs,rfl,Z⟩))
     ·rcases Z with Z|Z
      ·exact .inl Z
      rw[AH] at Z;obtain⟨hb,Z⟩:=Z;split at Z
      ·rename_i e sz es hg;exact .inr (.inr (.inr ⟨_,_,e,sz,es,rfl,X29 hb,hg,Z.1,Z.2⟩))
      exact Z.elim
     exact .inl Z
    rcases Z with Z|⟨sz,e,rfl,h0,rfl,rfl⟩|⟨cs,rs,rfl,h9⟩|⟨r,n,e,sz,es,rfl,cm,bk,rfl,rfl⟩;rotate_right
    ·
     have ai:rP st.ob (st.ob.length+gF.length)=none:=by simp[rP]
     have an:rP st.ob r=some (.row e sz es .no):=by have h2:=(aa r (by omega)).1;rw[X15 (by omega)] at bk;rw[X25 bk] at h2;exact h2
     have bl:=hv.1;cases bl with|own _ _ _ k c a0 c0 hk c1 hb=>
     obtain⟨c2,c3⟩:=c1 e sz es .no an;obtain⟨g0,_,_,g3⟩:=hR.mem.obj r _ an;have hp :∃p:C (Nat×Rp),((p=none/\es=[]) \/∃b c c',a6 r=some (b,c)/\p=some (b,(c',c.2+0*sz))/\es.length<=c'/\0+c'<=c.1)/\p=a6 r:=by
      rcases g3 with ⟨f1,f2⟩|⟨b,aq,vs,f,f1,f2,f3,f4,f5,f6,f7,f8⟩
      ·exact⟨none,.inl ⟨rfl,f2⟩,f1.symm⟩
      exact⟨some (b,(aq.1,aq.2+0*sz)),.inr ⟨b,aq,aq.1,f1,rfl,f3,by omega⟩,by rw[f1];simp⟩
     obtain⟨p,c4,c5⟩:=hp;obtain⟨m1,k1⟩:=hR.mem.uJ r (st.ob.length+gF.length) e sz 0 es es p an ai (by omega) (λi Y=>by simp) c4;have bm:=Trk.ok.kept b0 k1;refine⟨_,ae,?_⟩;have ah :∀q,q<gF.length->q≠st.ob.length+gF.length:=λq hq=>by omega
     have ab:(Xb4 gF.length++[st.ob.length+gF.length]).Nodup:=by rw[Xbw];exact⟨List.nodup_range,by simp,λa ha b hb=>by simp at ha hb;omega⟩
     have au :∀i (Y:i<gF.length),rJ (rJ (rP st.ob) r (some .gone)) (st.ob.length+gF.length) (some (.row e sz es .no)) i=some ((J.set r .gone)[i]'(by simp;omega))/\A4 ((J.set r .gone)[i]'(by simp;omega))=true:=λi Y=>by
      rw[AO _ _ _ _ (ah i Y)];by_cases bc:i=r
      ·subst bc;rw[gL];simp[A4]
      rw[AO _ _ _ _ bc,List.getElem_set_ne (Ne.symm bc)];exact aa i (by omega)
     have ao:=m1.restrict (gF:=J.set r .gone++[.row e sz es .no]) ab (by simp[Q]) (λi Y af=>by
      simp only[X11,Xbx,X22] at Y;by_cases H:i<gF.length
      ·rw[Xa2 (by simpa using H),Xa2 (by simp;omega)];simp only[Xcs];exact au i H
      have:i=gF.length:=by omega
      subst this;rw[Xb1 (by simp),Xb1 (by simp;omega)];simp only[Xbx,Nat.sub_self,Xb5,X21,Q]
      exact⟨gL _ _ _,rfl⟩)
     have a1:rY (J.set r .gone++[.row e sz es .no]) gF.length=some (.row e sz es .no):=by simp only[rY];rw[Xa4 (by simp;omega)];simp[Q]
     have ap:sy (Xb4 gF.length++[st.ob.length+gF.length]) (rJ (rJ a6 r none) (st.ob.length+gF.length) p) gF.length=a6 r:=by simp only[sy];rw[Xa4 (by simp)];simp[c5]
     refine⟨S1,_,ao,⟨λb o hS=>⟨m1.sS b o hS,m1.kS b o hS⟩,λq hq=>?_,λq hq=>?_⟩,?_,?_⟩
     ·have H:q<gF.length:=by refine Xaz λa7=>hq ?_;simp[rY,a7]
      obtain⟨q1,q2⟩:=bm q H (by simp[rY,H]);have e1:sy (Xb4 gF.length++[st.ob.length+gF.length]) (rJ (rJ a6 r none) (st.ob.length+gF.length) p) q=rJ (rJ a6 r none) (st.ob.length+gF.length) p q:=by simp only[sy];rw[Ww (by simpa using H)];simp[H]
      have e2:rY (J.set r .gone++[.row e sz es .no]) q=rJ (rJ (rP st.ob) r (some .gone)) (st.ob.length+gF.length) (some (.row e sz es .no)) q:=by rw[(au q H).1];simp only[rY];rw[Ww (by simp;omega),X15]
      unfold sW at q2⊢;rw[e1,e2];exact q2
     ·have H:q<gF.length:=by refine Xaz λa7=>hq ?_;simp[rY,a7]
      simp only[rY];rw[Ww (by simp;omega)];simp[Q,H]
     ·refine .own _ n _ k c a0 c0 hk (λe' c6 c7 f' hx=>?_) λcs hx=>?_
      ·rw[a1] at hx;simp only[X24,OB.row.injEq] at hx;obtain⟨rfl,rfl,rfl,rfl⟩:=hx;refine⟨c2,λhn=>?_⟩;have:=c3 hn;unfold Hy at *;rwa [ap]
      rw[a1] at hx;simp at hx
     intro q hq;have:q=gF.length:=by simpa[AV.refs] using hq
     rw[this,a1];simp
    rotate_right
    ·
     obtain⟨x',wr,S',hK,m1,k1,bn,a8,c8,a7,bo,bd⟩:=Tm hR.mem (rl.refl _) hv.1 h9;obtain⟨os,⟨rfl,rfl⟩,c9,be⟩:=Og hK;refine⟨u,ae,?_⟩;have bp :∀q∈wr,gF.length<=q.1:=λq hq=>(a8 q hq).1;have ag :∀k (hk:k<rs.length),(Xb4 gF.length++rs)[gF.length+k]?=some rs[k]:=λk hk=>by rw[Xa4 (by simp)];simp[hk]
     have bq :∀k (hk:k<rs.length),rY (J++os) (gF.length+k)=some (os[k]'(by omega)):=λk hk=>by simp only[rY];rw[Xa4 (by omega),Q,Nat.add_sub_cancel_left];simp[show k<os.length by omega]
     have an :∀k (hk:k<rs.length),Ag (rP st.ob) wr rs[k]=some (os[k]'(by omega)):=λk hk=>by rw[EG _ _ _ λq hq e=>(a8 q hq).2 (e▸Wx hk)];exact (be k (by omega) hk).1
     have ab:(Xb4 gF.length++rs).Nodup:=by
      rw[Xbw]
      exact⟨List.nodup_range,c8,λa ha b hb e=>by
       have:=a7 b hb;simp at ha
       omega⟩
     refine fin m1 (λr K=>M bp K) ab (by simp[Q,c9]) (λi Y af=>?_) (λq hq=>?_) k1.k (bo _ _ λk hk=>⟨?_,?_⟩) λq hq=>?_
     ·simp only[X11,Xbx] at Y;by_cases H:i<gF.length
      ·rw[Xa2 (by simpa using H),Xa2 (by omega)];simp only[Xcs];rw[M bp H];exact aa i (by omega)
      rw[Xb1 (by simp;omega),Xb1 (by omega)];simp only[Xbx,Q];exact⟨an _ (by omega),(be _ (by omega) (by omega)).2⟩
     ·rw[Ww (by simpa using hq)];exact U q hq
     ·simp only[sy,ag k hk,Xbv]
     ·rw[bq k hk];exact (be k (by omega) hk).1.symm
     obtain⟨k,hk,rfl⟩:=bd q hq;rw[bq k hk];simp
    rotate_left
    ·
     cases hv.1 with|d _ _ hn=>
     cases hn with|nil=>
     have ai:rP st.ob (st.ob.length+gF.length)=none:=by simp[rP]
     obtain⟨m1,k1⟩:=hR.mem.empty (st.ob.length+gF.length) e sz ai h0;refine⟨_,ae,?_⟩;have ah :∀q,q<gF.length->q≠st.ob.length+gF.length:=λq hq=>by omega
     have ba :∀q,q<gF.length->rP st.ob q=rY J q:=λq hq=>by have:=(aa q (by omega)).1;simp only[rP,this,rY];simp[show q<J.length by omega]
     have ab:(Xb4 gF.length++[st.ob.length+gF.length]).Nodup:=by rw[Xbw];exact⟨List.nodup_range,by simp,λa ha b hb=>by simp at ha hb;omega⟩
     have ao:=m1.restrict (gF:=J++[.row e sz [] .no]) ab (by simp[Q]) (λi Y af=>by
      simp only[X11,Xbx,X22] at Y;by_cases H:i<gF.length
      ·rw[Xa2 (by simpa using H),Xa2 (by omega)];simp only[Xcs];rw[AO _ _ _ _ (ah i H)];exact aa i (by omega)
      have:i=gF.length:=by omega
      subst this;rw[Xb1 (by simp),Xb1 (by omega)];simp only[Xbx,Nat.sub_self,Xb5,Q]
      exact⟨gL _ _ _,rfl⟩)
     have a1:rY (J++[.row e sz [] .no]) gF.length=some (.row e sz [] .no):=by simp only[rY];rw[Xa4 (by omega)];simp[Q]
     refine⟨S1,_,ao,⟨λb o hS=>⟨m1.sS b o hS,m1.kS b o hS⟩,λr K=>?_,λr K=>?_⟩,?_,?_⟩
     ·have H:r<gF.length:=by refine Xaz λa7=>K ?_;simp[rY,a7]
      obtain⟨q1,q2⟩:=b0 r H (by simp[rY,H]);have e1:sy (Xb4 gF.length++[st.ob.length+gF.length]) (rJ a6 (st.ob.length+gF.length) none) r=a6 r:=by simp only[sy];rw[Ww (by simpa using H)];simp[H,AO _ _ _ _ (ah r H)]
      have e2:rY (J++[.row e sz [] .no]) r=rP st.ob r:=by rw[ba r H];simp only[rY];rw[Ww (by omega)]
      unfold sW at q2⊢;rw[e1,e2];exact q2
     ·have H:r<gF.length:=by refine Xaz λa7=>K ?_;simp[rY,a7]
      simp only[rY];rw[Ww (by omega)];simp[Q,H]
     ·refine .own _ 0 _ 0 0 none rfl rfl (λe' c6 c7 f' hx=>?_) λcs hx=>?_
      ·rw[a1] at hx;simp only[X24,OB.row.injEq] at hx;obtain⟨rfl,rfl,rfl,rfl⟩:=hx;refine⟨Xa8 _,λ_=>.inl ⟨?_,rfl,_,rfl⟩⟩;simp only[sy];rw[Xa4 (by simp)];simp
      rw[a1] at hx;simp at hx
     intro q hq;have:q=gF.length:=by simpa[AV.refs] using hq
     rw[this,a1];simp
    obtain⟨x',nw,wr,S',hK,m1,k1,bn,a8,K⟩:=Qi hR.mem (rl.refl _) hv.1 hv.2 Z;refine⟨u,ae,?_⟩;rcases K with ⟨rfl,r1,r2,r3⟩|⟨r,rfl,a7,ca,cb,cc⟩
    ·obtain⟨rfl,rfl⟩:=hK;have hO :∀r,r<gF.length->rY J r=Ag (rP st.ob) wr r:=λr K=>by rw[M a8 K];have:=(aa r (by omega)).1;simp only[rP,this,rY];simp[show r<J.length by omega]
     refine fin m1 (λr K=>M a8 K) List.nodup_range (by simp[Q]) (λi Y af=>?_) U k1.k (MK r1 r3 U hO) λr K=>?_
     ·simp only[Xbx] at Y;simp only[Xcs];rw[M a8 Y];exact aa i af
     rw[hO r (r3 r K),M a8 (r3 r K)];exact r2 r K
    simp only[An] at hK;obtain⟨o,ho,hK⟩:=hK;obtain⟨cd,rfl,rfl⟩:A4 o=true/\x'=V/\J++[o]=F:=by
     cases o with
     | box cs=>simpa only[I6] using hK
     | row e sz es f=>exact (AH _ _).1 hK
     | map k e es=>exact⟨rfl,hK⟩
     | rK=>exact hK.elim
     | gone=>exact hK.elim
    have ap:sy (Xb4 gF.length++[r]) a6 gF.length=a6 r:=by simp only[sy];rw[Xa4 (by simp)];simp
    have a1:rY (J++[o]) gF.length=some o:=by simp only[rY];rw[Xa4 (by omega)];simp[Q]
    have br:Ag (rP st.ob) wr r=some o:=(EG _ _ _ ca).trans ho;have ab:(Xb4 gF.length++[r]).Nodup:=by rw[Xbw];exact⟨List.nodup_range,by simp,λa ha b hb=>by simp at ha hb;omega⟩
    refine fin m1 (λr K=>M a8 K) ab (by simp[Q]) (λi Y af=>?_) (λq hq=>?_) k1.k ?_ λq hq=>?_
    ·simp only[X11,Xbx,X22] at Y;by_cases H:i<gF.length
     ·rw[Xa2 (by simpa using H),Xa2 (by omega)];simp only[Xcs];rw[M a8 H];exact aa i (by omega)
     have:i=gF.length:=by omega
     subst this;rw[Xb1 (by simp),Xb1 (by omega)];simp only[Xbx,Nat.sub_self,Xb5,Q];exact⟨br,cd⟩
    ·rw[Ww (by simpa using hq)];exact U q hq
    ·exact cb _ _ ap (a1.trans br.symm)
    rw[cc q hq,a1];simp
   ·
    rename_i cf;obtain⟨bu,wr,S',hK,m1,k1,bn,a8,K⟩:=OU hR.mem (rl.refl _) h3 Z;obtain⟨rfl,rfl⟩:=hK;have ax :∀{α β:Type} {l:O α} {k:O β} {R:α->β->Prop},sA R l k->l.length=k.length:=by
     intro α β l k R h;induction h with
     | nil=>rfl
     | cons _ _ ih=>simp[ih]
    have ag :∀{l:O AV} {k:O A} {R:AV->A->Prop},sA R l k->∀i (Y:i<l.length),∃v,k[i]?=some v/\R l[i] v:=by
     intro l k R h;induction h with
     | nil=>intro i Y;simp at Y
     | cons h _ ih=>
      intro i Y;cases i with
      | zero=>exact⟨_,rfl,h⟩
      | succ i=>exact ih i (by simpa using Y)
    have cg:us.length≠1:=by
     intro he;have:=ax h3;match al,this with
     | [x],_=>exact cf x rfl
     | [],h=>simp at h;omega
     | _::_::_,h=>simp at h;omega
    have bw:ef us=.tuple us.toArray:=by
     match us,cg with
     | [],_=>rfl
     | [_],h=>exact absurd rfl h
     | _::_::_,_=>rfl
    rw[bw] at ae;refine⟨_,ae,?_⟩;have hO :∀r,r<gF.length->rY J r=Ag (rP st.ob) wr r:=λr K=>by rw[M a8 K];have:=(aa r (by omega)).1;simp only[rP,this,rY];simp[show r<J.length by omega]
    refine fin m1 (λr K=>M a8 K) List.nodup_range (by simp[Q]) (λi Y af=>?_) U k1.k ?_ λr ch=>?_
    ·simp only[Xbx] at Y;simp only[Xcs];rw[M a8 Y];exact aa i af
    ·refine .sH bu _ (λi=>us.getD i Xc3) (by simp[ax K]) (λi Y=>?_) λi Y=>?_
     ·obtain⟨v,q1,_⟩:=ag K i Y;simp[q1]
     obtain⟨v,q1,q2,q3,q4⟩:=ag K i Y;simp only[Wq,q1,Xao];exact MK q2 q4 U hO
    obtain⟨c,cj,bf⟩:=AV.sf bu r (by simpa[AV.refs] using ch);obtain⟨j,hj,rfl⟩:=Wz cj;obtain⟨v,q1,q2,q3,q4⟩:=ag K j hj;rw[hO r (q4 r bf),M a8 (q4 r bf)];exact q3 r bf
def V9 (φ:Nat->C (Nat×Rp))(ob:Nat->C OB):Nat->Prop:=λb=>∃r c,ob r≠none/\φ r=some (b,c)
def Mem.here {E:Env}{w:B}{S:Sc}{φ:Nat->C (Nat×Rp)}{ob:Nat->C OB}(m:Mem E w S φ ob) : Mem ⟨w,S,V9 φ ob,E.wl,E.gb,m.vQ λ_ h=>h⟩ w S φ ob:=
 ⟨m.obj,m.inj,m.tE,λ_ _ h=>h,λ_ _ _=>rfl,m.bS,λ_ _ h _ _=>h,λ_ _ _=>rfl,Xa8 _,λr b c F H=>⟨(m.ow r b c F H).1,.inr ⟨r,c,F,H⟩⟩,⟨rfl,rfl,rfl,.inr (Xa8 _)⟩⟩
def Mem.trans {E:Env}{w w':B}{S S':Sc}{φ φ':Nat->C (Nat×Rp)}{ob ob':Nat->C OB}(m:Mem E w S φ ob){hg:tK E.wl E.gb (V9 φ ob) S w}(F:Mem ⟨w,S,V9 φ ob,E.wl,E.gb,hg⟩ w' S' φ' ob') : Mem E w' S' φ' ob':=by
 have K :∀b,b<E.w0.heap.size->¬ E.PB b->¬ V9 φ ob b:=by
  rintro b H J ⟨r,c,U,M⟩;rcases (m.ow r b c U M).2 with h|h
  ·omega
  exact J h
 refine⟨F.obj,F.inj,F.tE,λb o h=>F.sS b o (m.sS b o h),λb o h=>(F.kS b o (m.sS b o h)).trans (m.kS b o h),F.bS,λb o h H J=>?_,λb H J=>?_,Xa3 m.sz F.sz,λr b c H J=>?_,?_⟩
 ·exact m.nS b o (F.nS b o h (Xap H m.sz) (K b H J)) H J
 ·exact (F.fr b (Xap H m.sz) (K b H J)).trans (m.fr b H J)
 ·obtain⟨U,M⟩:=F.ow r b c H J;refine⟨U,?_⟩;rcases M with M|⟨V,Y,Z,h6⟩
  ·exact .inl (Xa3 m.sz M)
  exact (m.ow V b Y Z h6).2
 obtain⟨a1,a2,a3,Q⟩:=m.os;obtain⟨b1,b2,b3,b4⟩:=F.os;refine⟨b1.trans a1,b2.trans a2,b3.trans a3,?_⟩;rcases Q with Q|Q
 ·exact .inl Q
 rcases b4 with b4|b4
 ·exact .inl b4
 exact .inr (Xa3 Q b4)
def HB :∀{ob:O (C OB)} {n:Nat},Hr ob n=true->∀r,n<=r->ob.getD r none=none
 | [],_,_,r,_=>by simp
 | _::l,n+1,h,r+1,F=>by simpa using HB (ob:=l) (n:=n) (by simpa[Hr] using h) r (by omega)
 | none::l,0,h,0,_=>by simp
 | none::l,0,h,r+1,_=>by simpa using HB (ob:=l) (n:=0) (by simpa[Hr] using h) r (by omega)
 | some _::_,0,h,_,_=>by simp[Hr] at h
def sA.wM {R:AV->A->Prop} :∀{l:O AV} {k:O A},sA R l k->l.length=k.length/\∀i (F:i<l.length),R l[i] (k.getD i Xc3)
 | _,_,.nil=>⟨rfl,λi F=>by simp at F⟩
 | _,_,.cons h t=>by
  obtain⟨a,b⟩:=sA.wM t;refine⟨by simp[a],λi F=>?_⟩;cases i with
  | zero=>simpa using h
  | succ i=>simpa using b i (by simpa using F)
def X3 {wl : WL}{cx : Cx}(hT : rc P cx.T)(hC : Oi wl P cx)(hD : UT wl P cx){f : Xcx}{fn : Func}(hf : P.funcs[f]? = some fn)(Y : fn.name ≠ "runtime.NumGoroutine") {args:O AV} {ob:O (C OB)} {K:AV->O (C OB)->Prop} (h:ip cx fn args ob K):wm wl P f args ob K:=by
 obtain⟨a7,h⟩:=h;cases hb:fn.body with
 | none=>simp[hb] at h
 | some c=>
  simp only[hb] at h;refine⟨⟨fn,hf,Y,by rw[hb];rfl⟩,λE hE w S φ H J m=>?_⟩;subst hE;obtain⟨a8,J⟩:=J.wM;have s7:H.size=args.length:=by simpa using a8.symm
  have m0:=m.here;refine calls_of_wp hf hb (OR (E:=⟨w,S,V9 φ (λr=>ob.getD r none),E.wl,E.gb,m.vQ λ_ h=>h⟩) (tr:=⟨cx.np,φ,λr=>ob.getD r none⟩) hT hC hD rfl c h ⟨S,φ,⟨?_,λi hi=>?_,rfl,m0⟩,λr V h0=>⟨h0,.refl _ _ _⟩⟩ ?_)
  ·simp[s7]
  ·simp only[Xbs];split
   ·rename_i ah;have:=J i ah;have e:(H++Array.replicate (fn.ntmps-H.size) Xc3).getD i Xc3=H.toList.getD i Xc3:=by
     have:i<H.size:=by omega
     simp[Array.getElem?_append_left this]
    rw[e];exact this
   rw[List.getElem_replicate];exact⟨.dead _,FB _⟩
  intro e st a w' hl Z;obtain⟨S1,M,Z,aa⟩:=Z;have ab :∀id,e≠.exit id:=λid he=>by subst he;exact hl
  have ai:Tc cx st fn.results.toList (λF=>(match F with
   | [a]=>K a st.ob
   | F=>K (.sH F) st.ob)):=by
   cases e with
   | exit id=>exact absurd rfl (ab id)
   | normal=>exact hl
   | ret=>exact hl
  obtain⟨F,U,h1,h2,h3⟩:=JG hT Z ai;have ae:=OV h2;have af :∃r,K r st.ob/\gM S1 w' M (rP st.ob) r (ef U)/\gO (rP st.ob) r:=by
   have ag :∀{F:O AV} {U:O A},sA (λx v=>gM S1 w' M (rP st.ob) x v/\gO (rP st.ob) x) F U->gM S1 w' M (rP st.ob) (.sH F) (.tuple U.toArray)/\gO (rP st.ob) (.sH F):=by
    intro F U h;obtain⟨q1,q2⟩:=h.wM;refine⟨.sH F U.toArray (λi=>U.getD i Xc3) (by simp[q1]) (λi hi=>?_) λi hi=>(q2 i hi).1,λr V=>?_⟩
    ·have:i<U.length:=by omega
     simp[this]
    obtain⟨c,aj,ak⟩:=AV.sf F r (by simpa[AV.refs] using V);obtain⟨j,hj,rfl⟩:=Wz aj;exact (q2 j hj).2 r ak
   split at h1
   ·cases h3 with|cons hv a1=>
    cases a1;exact⟨_,h1,hv.1,hv.2⟩
   rename_i hn;obtain⟨q1,q2⟩:=ag h3;refine⟨_,h1,?_,q2⟩;match F,U,h3,hn with
   | [],[],_,_=>exact q1
   | [_],[_],_,hn=>exact absurd rfl (hn _)
   | _::_::_,_::_::_,_,_=>exact q1
  obtain⟨r,g1,g2,g3⟩:=af;have hK:Kept w S φ (λr=>ob.getD r none) w' S1 M (rP st.ob):=by
   refine⟨λb o hS=>⟨Z.mem.sS b o hS,Z.mem.kS b o hS⟩,λr V=>?_,λr V=>?_⟩
   ·refine (aa r (Xaz λa6=>V (HB a7 r a6)) V).2
   exact (aa r (Xaz λa6=>V (HB a7 r a6)) V).1
  have:a.defers=[]/\∃v,(results fn a.tmps).run P w'=.ok v w'/\∃v',Ending.returned v=.returned v'/\∃S' φ' r Q,K r Q/\Mem E w' S' φ' (λr=>Q.getD r none)/\Kept w S φ (λr=>ob.getD r none) w' S' φ' (λr=>Q.getD r none)/\
    gM S' w' φ' (λr=>Q.getD r none) r v'/\gO (λr=>Q.getD r none) r:=
   ⟨Z.df,_,ae,_,rfl,S1,M,r,st.ob,g1,m.trans Z.mem,hK,g2,g3⟩
  cases e with
  | exit id=>exact absurd rfl (ab id)
  | normal=>exact this
  | ret=>exact this
end
end Go.AX
end
