/-
  Texts of one proof, packed.
-/
import Derived.Test.YthbbpeeghmpcfaaGreatDoorR10
set_option linter.all false
set_option maxRecDepth 100000
set_option maxHeartbeats 4000000
open List renaming length_map→X1,length_append→X2,mem_singleton→X11,getElem?_eq_getElem→X12,getElem?_eq_some_iff→X13,length_drop→X14,length_take→X15,length_replicate→X17,length_set→X18,length_singleton→X19,mem_append→X20
open Option.some renaming injEq→X21,inj→X22
open Bool renaming and_eq_true→X24
open Nat renaming le_of_ble_eq_true→X26,eq_of_beq_eq_true→X27
open List renaming range→Xbu
open Go renaming undef→Xck,FuncId→Xdy
open Nat renaming blt→Xcu
open Go.Result renaming andThen_ok→Xaw
open Go.Sem renaming run_bind→Xb0,run_pure→Xdd
open Go.Instr renaming sureAddr→Xd2,loadAt→Xdt
section
namespace Go.AX
section
variable {P:Program} {E:Env} {tr:Trk} {w:B} {S:Sc} {φ:Nat->C (Nat×Rp)}
def mz (tmps:Array A):ResultVar->Sem A
 | .tmp t=>pure (tmps.getD t Xck)
 | .cell a t=>do loadVar t (← asAddr (tmps.getD a Xck))
def nP:O A->A
 | [u]=>u
 | F=>.tuple F.toArray
def eM (fn:Func)(tmps:Array A):results fn tmps=(do
  let vs ← fn.results.mapM (mz tmps)
  pure (if h:vs.size=1 then vs[0] else .tuple vs)):=by
 unfold results;congr 2
def RG {fn:Func}{tmps:Array A}{F:O A}(h:(fn.results.toList.mapM (mz tmps)).run P w=.ok F w):(results fn tmps).run P w=.ok (nP F) w:=by
 rw[eM,Array.mapM_eq_mapM_toList];simp only[Xb0,Sem.run_map,h,Xaw,Xdd];match F with
 | []=>rfl
 | [u]=>rfl
 | u::v::F=>rfl
def Ks {cx:Cx}(V:xD P cx.T){st:wD}{a:Act}(J:R E st a w S φ) :∀{Q:O ResultVar} {K:O AV->Prop},W2 cx st Q K-> ∃F H,K F/\(Q.mapM (mz a.tmps)).run P w=.ok H w/\Cs (λx v=>kI S w φ (zt st.ob) x v/\oA (zt st.ob) x) F H
 | [],K,h=>⟨[],[],h,rfl,.nil⟩
 | .tmp t::Q,K,h=>by simp only[W2,BU] at h;obtain⟨F,H,Y,Z,h3⟩:=Ks V J h;refine⟨_,a.tmps.getD t Xck::H,Y,?_,.cons (J.av (.tmp t)) h3⟩;simp[List.mapM_cons,mz,Z]
 | .cell p ty::Q,K,h=>by
  simp only[W2] at h;have M:=J.av (.tmp p);simp only[Li] at M;split at h
  ·rename_i r off hr;rw[hr] at M;obtain⟨a7,u,Y,Z,h3,h4⟩:=Ql V J.mem M.1 M.2 h;obtain⟨F,H,g1,g2,g3⟩:=Ks V J Y;refine⟨_,u::H,g1,?_,.cons ⟨h3,h4⟩ g3⟩;obtain⟨b,c,_,U⟩:=M.1.Tp;have U:a.tmps.getD p Xck=.pointer (some ⟨b,off,none⟩):=U;have a6:(loadVar ty ⟨b,off,none⟩).run P w=.ok u w:=by have:(Xdt ty (a.tmps.getD p Xck)).run P w=.ok u w:=Z;rw[U] at this;simpa[Xdt,Xd2] using this
   simp only[List.mapM_cons,mz,U,asAddr,Xb0,Xdd,Xaw,a6,g2]
  exact h.elim
def Mem.restrict {ob:Nat->C OB}(m:Mem E w S φ ob){idx:O Nat}{gM:O OB}(Z:idx.Nodup)(hl:idx.length=gM.length) (H :∀i (F:i<idx.length) (hi':i<gM.length),ob idx[i]=some gM[i]/\A9 gM[i]=true):Mem E w S (Cr idx φ) (zo gM):=by
 have get :∀{i:Nat},zo gM i≠none->∃F:i<idx.length,ob idx[i]≠none/\Cr idx φ i=φ idx[i]:=by
  intro i h;have F:i<idx.length:=by refine Xbs λa6=>h ?_;simp[zo,show gM.length<=i by omega]
  refine⟨F,?_,by simp[Cr,F]⟩;rw[(H i F (by omega)).1];simp
 refine⟨λi o h=>?_,λi j b c c' Q J U V=>?_,λi o h r' Y=>?_,m.sS,m.kS,m.bS,m.nS,m.fr,m.sz,λi b c h g=>?_,m.os⟩
 ·obtain⟨F,Q,J⟩:=get (i:=i) (by simp[h]);have e1:gM[i]=o:=by simpa[zo,show i<gM.length by omega] using h
  rw[<- e1];exact (m.obj _ _ (H i F (by omega)).1).rename (H i F (by omega)).2 J
 ·obtain⟨F,K,M⟩:=get Q;obtain⟨hj,q1,q2⟩:=get J;rw[M] at U;rw[q2] at V;exact (List.getElem_inj Z).1 (m.inj _ _ b c c' K q1 U V)
 ·obtain⟨F,_,_⟩:=get (i:=i) (by simp[h]);have e1:gM[i]=o:=by simpa[zo,show i<gM.length by omega] using h
  rw[<- e1,KU (H i F (by omega)).2] at Y;simp at Y
 obtain⟨F,K,M⟩:=get h;exact m.ow _ b c K (M▸g)
def OR {obl:O (C OB)} :∀{n i:Nat} {K:O OB->Prop},J6 obl n i K->∃gM,K gM/\gM.length=n/\∀j (H:j<gM.length),obl.getD (i+j) none=some gM[j]/\A9 gM[j]=true
 | 0,i,K,h=>⟨[],h,rfl,λj H=>by simp at H⟩
 | n+1,i,K,h=>by
  simp only[J6,Ao] at h;obtain⟨o,F,h⟩:=h;have go :∀{o:OB},obl.getD i none=some o->A9 o=true->J6 obl n (i+1) (λl=>K (o::l))->∃gM,K gM/\gM.length=n+1/\∀j (H:j<gM.length),obl.getD (i+j) none=some gM[j]/\A9 gM[j]=true:=by
   intro o F J h;obtain⟨gM,M,Q,U⟩:=OR h;refine⟨o::gM,M,by simp[Q],λj H=>?_⟩;cases j with
   | zero=>exact⟨F,J⟩
   | succ j=>have:=U j (by simpa using H);rw[show i+1+j=i+(j+1) by omega] at this;exact this
  cases o with
  | box Y=>simp only[KO] at h;exact go F h.1 h.2
  | row e sz V f=>simp only[AI] at h;exact go F h.1 h.2
  | gone=>exact go F rfl h
  | zj=>exact h.elim
  | map k e V=>exact go F rfl h
def QD :∀{F:O Nat} {r k:Nat},X9 F r=some k->F[k]?=some r
 | [],r,k,h=>by simp[X9] at h
 | x::F,r,k,h=>by
  simp only[X9] at h;split at h
  ·rename_i H;simp only[X21] at h;subst h;simp[X27 H]
  split at h
  ·rename_i J hk;simp only[X21] at h;subst h;simpa using QD hk
  simp at h
def WF :∀{F:O Nat} {r:Nat},X9 F r=none->OJ F r=false
 | [],r,_=>rfl
 | x::F,r,h=>by
  simp only[X9] at h;split at h
  ·simp at h
  rename_i H;split at h
  ·simp at h
  rename_i hk;simp only[OJ,H,WF hk,Bool.or_self]
def blF (F:O Nat):AV->AV
 | .own r n=>(match OJ F r with
  | true=>.d (.nil 1)
  | false=>.own r n)
 | a=>a
def SK (H:O Nat) :∀F:O AV,QH H F=F.map (blF H)
 | []=>rfl
 | c::F=>by cases c<;>simp only[QH,Xbk,SK H F]<;>rfl
def mxF (np:Nat)(F:O Nat):AV->D->AV
 | .own r n,d=>(match X9 F r with
  | some k=>.own (np+k) n
  | none=>.d d)
 | _,d=>.d d
def YR (np:Nat)(J:O Nat) :∀(F:O AV) (H:O D),eB np J F H=List.zipWith (mxF np J) F H
 | [],H=>by simp[eB]
 | c::F,[]=>by cases c<;>simp[eB]
 | c::F,d::H=>by cases c<;>simp only[eB,List.zipWith_cons_cons,YR np J F H]<;>rfl
def W7 {obl:O (C OB)}{ob:Nat->C OB}{np:Nat}{M:O Nat}(m:Mem E w S φ ob)(hx:z7 (zt obl) ob){F:O AV}{v:A}{K:AV->Prop}(hv:kI S w φ ob (.agg F) v)(h:XQ np obl M F K) : ∃x' wr S',K x'/\Mem E w S' φ (Af ob wr)/\Kept w S φ ob w S' φ (Af ob wr)/\z7 (zt obl) (Af ob wr)/\(∀q∈wr,np<=q.1/\q.1∉M)/\M.Nodup/\(∀r∈M,np<=r)/\ (∀(φ':Nat->C (Nat×Rp)) (ob':Nat->C OB),(∀k (V:k<M.length),φ' (np+k)=φ M[k]/\ob' (np+k)=ob M[k])->kI S' w φ' ob' x' v)/\∀q∈x'.refs,∃k,k<M.length/\q=np+k:=by
 unfold XQ at h;rw[AI] at h;obtain⟨h0,h⟩:=h;simp only[X24,Xa6] at h0;cases hv with|agg _ vs f hs hf a6 a7=>
 let pk:Nat->I:=λi=>match F[i]? with
  | some (.own r _)=>OJ M r
  | _=>false
 have a8:kI S w φ ob (.agg (QH M F)) (.agg (Array.ofFn (n:=F.length) λi=>if pk i then .slice none 0 0 else f i)):=by
  rw[SK];refine .agg _ _ (λi=>if pk i then .slice none 0 0 else f i) (by simp) (λi U=>?_) (λi U=>?_) λi U=>?_
  ·have U:i<F.length:=by simpa using U
   simp[U]
  ·have H:i<F.length:=by simpa using U
   rw[Xb6];have:=a6 i H;revert this;generalize F[i]=c;intro this;cases c<;>simp only[blF]<;>first|exact this|(split<;>first|rfl|exact this)
  have H:i<F.length:=by simpa using U
  rw[Xb6];have Y:=a7 i H;have Q:pk i=match F[i] with
   | .own r _=>OJ M r
   | _=>false:=by simp only[pk,X12 H];generalize F[i]=c;cases c<;>rfl
  revert Y Q;generalize F[i]=c;intro Y Q;cases c<;>simp only[blF]<;>simp only at Q<;>(try (rw[Xa1 (by simp[Q])];exact Y));rename_i r n;cases hb:OJ M r with
  | true=>rw[Xa2 (by rw[Q,hb])];exact .d _ _ (.nil 1)
  | false=>rw[Xa1 (by rw[Q,hb];simp)];exact Y
 obtain⟨y,wr,S',Y,Q,h3,h4,h5,h6⟩:=Di m hx a8 h;cases y with
 | agg ds=>
  simp only[AI] at Y;obtain⟨hw,hK⟩:=Y;have ab :∀q∈wr,np<=q.1/\q.1∉M:=λq hq=>by have:=Xa6.1 hw q hq;simp only[X24,Xbd] at this;exact⟨X26 this.1,λe=>by rw[Z9.2 e] at this;simp at this⟩
  cases h4 with|agg _ _ g gs gf gn gr=>
  have aa:ds.length=F.length:=by simpa using gs.symm
  rw[YR] at hK;have an:(List.zipWith (mxF np M) F ds).length=F.length:=by simp[aa]
  refine⟨_,wr,S',hK,Q,h3,h5,ab,TU h0.1,λr hr=>X26 (h0.2 r hr),λφ' ob' he=>?_,λq hq=>?_⟩
  ·refine .agg _ _ f (by omega) (λi U=>hf i (by omega)) (λi U=>?_) λi U=>?_
   ·have H:i<ds.length:=by omega
    rw[List.getElem_zipWith];have hn:=gn i H;generalize F[i]'(by omega)=c;have hd :∀d:D,d.isAgg=false->(AV.d d).one=true:=λd hd=>by simp[AV.one,hd]
    cases c<;>simp only[mxF]<;>first|exact hd _ hn|(split<;>first|rfl|exact hd _ hn)
   have H:i<ds.length:=by omega
   have Z:i<F.length:=by omega
   rw[List.getElem_zipWith];have q1:=a7 i Z;have q2:=gr i H;have q3:=gf i H;have Q:pk i=match F[i] with
    | .own r _=>OJ M r
    | _=>false:=by simp only[pk,X12 Z];generalize F[i]=c;cases c<;>rfl
   have q4:pk i=false->kI S' w φ' ob' (.d ds[i]) (f i):=by
    intro hp;have:g i=f i:=by simp only[Array.getElem?_ofFn,Z,Xf5,hp] at q3;simpa using q3.symm
    rw[<- this];exact .d _ _ q2
   revert q1 Q;generalize F[i]=c;intro q1 Q;cases c<;>simp only[mxF]<;>simp only at Q<;>(try exact q4 Q);rename_i r n;split
   ·rename_i k V;have ae:=QD V;obtain⟨af,ag⟩:=X13.1 ae;obtain⟨e1,e2⟩:=he k af;rw[ag] at e1 e2;cases q1 with|own _ _ _ kk c a0 ah V ai hb=>
    refine .own _ n _ kk c a0 ah V (λe' aj ak f' hx=>?_) λF hx=>?_
    ·obtain⟨g1,g2⟩:=ai e' aj ak f' (e2.symm.trans hx);refine⟨g1,λhn=>?_⟩;have:=g2 hn;unfold JF at *;rwa [e1]
    obtain⟨g1,b,c',g2,g3⟩:=hb F (e2.symm.trans hx);exact⟨g1,b,c',e1.trans g2,g3⟩
   rename_i V;exact q4 (Q.trans (WF V))
  obtain⟨c,al,J⟩:=AV.Bs _ q (by simpa[AV.refs] using hq);obtain⟨i,U,rfl⟩:=Xai al;rw[List.getElem_zipWith] at J;revert J;generalize F[i]'(by omega)=c;intro J;cases c<;>simp only[mxF] at J<;>(try (simp[AV.refs] at J;done));split at J
  ·rename_i k V;have:=(X13.1 (QD V)).1;exact⟨k,this,by simpa[AV.refs] using J⟩
  simp[AV.refs] at J
 | _=>exact Y.elim
def RZ {obl:O (C OB)} :∀{F:O Nat} {K:O OB->Prop},NG obl F K->∃os,K os/\os.length=F.length/\∀i (H:i<os.length) (hi':i<F.length),zt obl F[i]=some os[i]/\A9 os[i]=true
 | [],K,h=>⟨[],h,rfl,λi H=>by simp at H⟩
 | r::F,K,h=>by
  simp only[NG,Ao] at h;obtain⟨o,M,h⟩:=h;cases o with
  | row e sz Y f=>
   simp only[AI] at h;obtain⟨J,h⟩:=h;obtain⟨os,Q,U,V⟩:=RZ h;refine⟨_,Q,by simp[U],λi H hi'=>?_⟩;cases i with
   | zero=>exact⟨M,J⟩
   | succ i=>exact V i (by simpa using H) (by simpa using hi')
  | _=>exact h.elim
def UR {obl:O (C OB)}{ob:Nat->C OB}{np:Nat}(m:Mem E w S φ ob)(J:z7 (zt obl) ob){x:AV}{v:A}{K:AV->C Nat->Prop}(U:kI S w φ ob x v)(hc:oA (zt obl) x)(h:dR np obl x K) : ∃x' nw wr S',K x' nw/\Mem E w S' φ (Af ob wr)/\Kept w S φ ob w S' φ (Af ob wr)/\z7 (zt obl) (Af ob wr)/\(∀q∈wr,np<=q.1)/\ ((nw=none/\kI S' w φ (Af ob wr) x' v/\oA (zt obl) x'/\∀r∈x'.refs,r<np) \/∃r,nw=some r/\np<=r/\(∀q∈wr,q.1≠r)/\ (∀(φ':Nat->C (Nat×Rp)) (ob':Nat->C OB),φ' np=φ r->ob' np=Af ob wr r->kI S' w φ' ob' x' v)/\∀q∈x'.refs,q=np):=by
 cases x<;>simp only[dR] at h;case d y=>
  rw[FU] at h;cases U with|d _ _ U=>
  exact⟨_,_,[],S,h,m,.refl _ _ _ _,J,λq F=>by simp at F,.inl ⟨rfl,.d _ _ U.norm,A0 _ _,λr hr=>by simp[AV.refs] at hr⟩⟩
 case own r n=>
  split at h
  ·rename_i H;exact⟨_,_,[],S,h,m,.refl _ _ _ _,J,λq F=>by simp at F,.inl ⟨rfl,U,hc,λr' M=>by simp only[AV.refs,X11] at M;rw[M];exact X26 H⟩⟩
  rename_i H;have Q:np<=r:=by refine Nat.le_of_not_lt λV=>?_;rw[show Xcu r np=true from Nat.ble_eq_true_of_le V] at H;simp at H
  rcases h with h|h
  ·have Z:=h;simp only[cW,Ao] at Z
   obtain⟨y,wr,S',h1,h2,h3,h4,h5,h6⟩:=Di (K:=λx w=>K (.d x) none/\∀q∈w,np<=q.1) m J U (by
    obtain⟨o,ho,Z⟩:=Z;simp only[cW,Ao];refine⟨o,ho,?_⟩;cases o with
    | box=>exact Z
    | map=>exact Z
    | gone=>exact Z
    | zj=>exact Z
    | row e sz es f=>exact⟨Z.1,Z.2,λq F=>by simp only[X11] at F;rw[F];exact Q⟩)
   exact⟨_,_,wr,S',h1.1,h2,h3,h5,h1.2,.inl ⟨rfl,.d _ _ h4,A0 _ _,λr hr=>by simp[AV.refs] at hr⟩⟩
  refine⟨_,_,[],S,h,m,.refl _ _ _ _,J,λq F=>by simp at F,.inr ⟨r,rfl,Q,λq F=>by simp at F,λφ' ob' e1 e2=>?_,λq F=>by simpa[AV.refs] using F⟩⟩;cases U with|own _ _ _ k c a0 a7 hk a8 H=>
  refine .own _ n _ k c a0 a7 hk (λe' Y es f' J=>?_) λcs J=>?_
  ·obtain⟨g1,g2⟩:=a8 e' Y es f' (e2.symm.trans J);refine⟨g1,λhn=>?_⟩;have:=g2 hn;unfold JF at *;rwa [e1]
  obtain⟨g1,b,c',g2,g3⟩:=H cs (e2.symm.trans J);exact⟨g1,b,c',e1.trans g2,g3⟩
 case agg cs=>obtain⟨y,wr,S',h1,h2,h3,h4,h5,h6⟩:=Di m J U h;rw[AI] at h1;refine⟨_,_,wr,S',h1.2,h2,h3,h5,λq F=>?_,.inl ⟨rfl,.d _ _ h4,A0 _ _,λr hr=>by simp[AV.refs] at hr⟩⟩;have:=h1.1;simp only[Xa6] at this;exact X26 (this q F)
 case mp r=>
  split at h
  ·rename_i H;exact⟨_,_,[],S,h,m,.refl _ _ _ _,J,λq F=>by simp at F,.inl ⟨rfl,U,hc,λr' M=>by simp only[AV.refs,X11] at M;rw[M];exact X26 H⟩⟩
  rename_i H;have Q:np<=r:=by refine Nat.le_of_not_lt λV=>?_;rw[show Xcu r np=true from Nat.ble_eq_true_of_le V] at H;simp at H
  refine⟨_,_,[],S,h,m,.refl _ _ _ _,J,λq F=>by simp at F,.inr ⟨r,rfl,Q,λq F=>by simp at F,λφ' ob' e1 e2=>?_,λq F=>by simpa[AV.refs] using F⟩⟩;cases U with|mp _ b c a6 H aa=>
  exact .mp _ b c (e1.trans a6) (λe' Y es f' J=>H e' Y es f' (e2.symm.trans J)) λcs J=>aa cs (e2.symm.trans J)
 case ref r off=>
  split at h
  ·rename_i H;exact⟨_,_,[],S,h,m,.refl _ _ _ _,J,λq F=>by simp at F,.inl ⟨rfl,U,hc,λr' M=>by simp only[AV.refs,X11] at M;rw[M];exact X26 H⟩⟩
  rename_i H;have Q:np<=r:=by refine Nat.le_of_not_lt λV=>?_;rw[show Xcu r np=true from Nat.ble_eq_true_of_le V] at H;simp at H
  refine⟨_,_,[],S,h,m,.refl _ _ _ _,J,λq F=>by simp at F,.inr ⟨r,rfl,Q,λq F=>by simp at F,λφ' ob' e1 e2=>?_,λq F=>by simpa[AV.refs] using F⟩⟩;cases U with|ref _ _ b c a6 H=>
  exact .ref _ off b c (e1.trans a6) λe' Y es f' J=>H e' Y es f' (e2.symm.trans J)
def RF {obl:O (C OB)}{np:Nat} :∀{xs:O AV} {vs:O A} {S:Sc} {ob:Nat->C OB} {K:O AV->Prop} (_:Mem E w S φ ob) (_:z7 (zt obl) ob) (_:Cs (λx v=>kI S w φ ob x v/\oA (zt obl) x) xs vs) (_:X4 np obl xs K), ∃F wr S',K F/\Mem E w S' φ (Af ob wr)/\Kept w S φ ob w S' φ (Af ob wr)/\z7 (zt obl) (Af ob wr)/\(∀q∈wr,np<=q.1)/\Cs (λx v=>kI S' w φ (Af ob wr) x v/\oA (zt obl) x/\∀r∈x.refs,r<np) F vs
 | [],[],S,ob,K,m,Y,_,h=>⟨[],[],S,h,m,.refl _ _ _ _,Y,λq J=>by simp at J,.nil⟩
 | x::xs,v::vs,S,ob,K,m,Y,Q,h=>by
  cases Q with|cons h1 h2=>
  simp only[X4] at h;obtain⟨x',nw,wr,S1,Z,m1,k1,U,a6,H⟩:=UR m Y h1.1 h1.2 h;rcases H with ⟨rfl,r1,r2,r3⟩|⟨r,rfl,_⟩
  ·simp only at Z;have a7 :∀{r:Nat},zt obl r≠none->ob r≠none:=by
    intro r H;rcases Y r with e1|⟨e,sz,es,f,e1,e2⟩
    ·rw[e1];exact H
    rw[e2];simp
   have V :∀{r:Nat},zt obl r≠none->Af ob wr r≠none:=by
    intro r H;rcases U r with e1|⟨e,sz,es,f,e1,e2⟩
    ·rw[e1];exact H
    rw[e2];simp
   obtain⟨F,a8,S2,g1,g2,g3,g4,g5,g6⟩:=RF m1 U (h2.imp λa v M=>⟨k1.Ke (λr H=>a7 (M.2 r H)) M.1,M.2⟩) Z;refine⟨x'::F,wr++a8,S2,g1,by rw[AQ];exact g2,by rw[AQ];exact k1.trans g3,by rw[AQ];exact g4,λq J=>?_,?_⟩
   ·rcases X20.1 J with J|J
    ·exact a6 q J
    exact g5 q J
   rw[AQ];exact .cons ⟨g3.Ke (λr H=>V (r2 r H)) r1,r2,r3⟩ g6
  exact Z.elim
 | [],_::_,_,_,_,_,_,Q,_=>by cases Q
 | _::_,[],_,_,_,_,_,Q,_=>by cases Q
def Ob {ob:Nat->C OB}{idx:O Nat}{gM:O OB}{np:Nat}{x:AV}{v:A}(h:kI S w φ ob x v)(H :∀r∈x.refs,r<np)(J :∀r,r<np->idx[r]?=some r)(K :∀r,r<np->zo gM r=ob r) : kI S w (Cr idx φ) (zo gM) x v:=by refine h.mono (λ_ _ h=>⟨h,rfl⟩) λr F=>.inl ?_;have:=H r F;simp[Cr,J r this,K r this]
def cQ {wl : WL}{cx : Cx}(hT : xD P cx.T)(hC : Re wl P cx)(hD : Xq wl P cx){f : Xdy}{fn : Func}(hf : P.funcs[f]? = some fn)(az : fn.name ≠ "runtime.NumGoroutine") {args:O AV} {gM:O OB} {V:AV} {F:O OB} (h:bD cx fn args gM λr o=>r=V/\o=F):xV wl P f args gM V F:=by
 obtain⟨bi,h⟩:=h;cases hb:fn.body with
 | none=>simp[hb] at h
 | some c=>
  simp only[hb] at h;refine⟨⟨fn,hf,az,by rw[hb];rfl⟩,λw S φ gb hg ak zx ba c0 m=>?_⟩;have al:zt (Ta cx.ex fn args gM).ob=zo gM:=by
   funext r;simp only[zt,Ta,zo,Xa8];by_cases K:r<gM.length
   ·rw[Xaf (by simpa using K)];simp[K]
   rw[Xas (by simpa using K)];simp only[X1,List.getElem?_replicate];split<;>simp[show gM.length<=r by omega]
  refine calls_of_wp hf hb (Q9 (E:=⟨w,S,Jo φ gM.length,wl,gb,hg⟩) (tr:=⟨gM.length,φ,zo gM⟩) hT hC hD bi.symm c h ⟨S,φ,⟨?_,λi Y=>?_,rfl,by rw[al];exact m⟩,λr K h0=>?_⟩ ?_)
  ·simp[Ta,zx]
  ·rw[al];simp only[Ta,Xcz];split
   ·rename_i H;have:=ba i H;have e:(ak++Array.replicate (fn.ntmps-ak.size) Xck).getD i Xck=ak.getD i Xck:=by
     have:i<ak.size:=by omega
     simp[Xbm this]
    rw[e];exact this
   rw[List.getElem_replicate];exact⟨.dead _,GT _⟩
  ·rw[al];refine⟨by simp only[zo];rw[X12 K];simp,.refl _ _ _⟩
  ·
   intro e st a w' hl hR;obtain⟨S1,a7,hR,bb⟩:=hR;have ai :∀id,e≠.exit id:=λid he=>by subst he;exact hl
   have c3:W2 cx st fn.results.toList (λan=>J6 st.ob cx.np 0 λgM=>(match an with
    | [a]=>Nt cx.np st.ob (λr o=>r=V/\o=F) a gM
    | an=>X4 cx.np st.ob an λbj=>.Ca bj=V/\gM=F)):=by
    cases e with
    | exit id=>exact absurd rfl (ai id)
    | normal=>exact hl
    | ret=>exact hl
   obtain⟨an,us,Z,h2,h3⟩:=Ks hT hR c3;obtain⟨J,Z,Q,ab⟩:=OR Z;simp only[Xbc] at ab;rw[bi] at Q Z;have af:=RG h2
   suffices bk :∃v,(results fn a.tmps).run P w'=.ok v w'/\∃S' φ',Mem ⟨w,S,Jo φ gM.length,wl,gb,hg⟩ w' S' φ' (zo F)/\Kept w S φ (zo gM) w' S' φ' (zo F)/\kI S' w' φ' (zo F) V v/\oA (zo F) V by
    obtain⟨v,g1,g2⟩:=bk;have:a.defers=[]/\∃v,(results fn a.tmps).run P w'=.ok v w'/\∃v',Ending.returned v=.returned v'/\∃S' φ',Mem ⟨w,S,Jo φ gM.length,wl,gb,hg⟩ w' S' φ' (zo F)/\Kept w S φ (zo gM) w' S' φ' (zo F)/\kI S' w' φ' (zo F) V v'/\oA (zo F) V:=
     ⟨hR.df,v,g1,v,rfl,g2⟩
    cases e with
    | exit id=>exact absurd rfl (ai id)
    | normal=>exact this
    | ret=>exact this
   have fin :∀{S':Sc} {ob:Nat->C OB} {idx:O Nat} {x:AV} {v:A} (_:Mem ⟨w,S,Jo φ gM.length,wl,gb,hg⟩ w' S' a7 ob) (_ :∀r,r<gM.length->ob r=zt st.ob r) (_:idx.Nodup) (_:idx.length=F.length)
     (_ :∀i (Y:i<idx.length) (ag:i<F.length),ob idx[i]=some F[i]/\A9 F[i]=true) (_ :∀r,r<gM.length->idx[r]?=some r) (_:PQ S1 w' S' w')
     (_:kI S' w' (Cr idx a7) (zo F) x v) (_:oA (zo F) x),∃S' φ',Mem ⟨w,S,Jo φ gM.length,wl,gb,hg⟩ w' S' φ' (zo F)/\Kept w S φ (zo gM) w' S' φ' (zo F)/\kI S' w' φ' (zo F) x v/\oA (zo F) x:=by
    intro S' ob idx x v m' bc hn hl ho Y hk hv hc;refine⟨S',_,m'.restrict hn hl ho,⟨λb o hS=>⟨m'.sS b o hS,m'.kS b o hS⟩,λr K=>?_,λr K=>?_⟩,hv,hc⟩
    ·have H:r<gM.length:=by refine Xbs λa8=>K ?_;simp[zo,a8]
     obtain⟨q1,q2⟩:=bb r H (by simp[zo,H]);have e1:Cr idx a7 r=a7 r:=by simp[Cr,Y r H]
     have au:=(X13.1 (Y r H)).1;have e3:idx[r]=r:=(X13.1 (Y r H)).2;have e2:zo F r=zt st.ob r:=by have:=(ho r au (by omega)).1;rw[e3,bc r H] at this;rw[this];simp[zo,show r<F.length by omega]
     unfold DS at q2⊢;rw[e1,e2];exact q2
    have H:r<gM.length:=by refine Xbs λa8=>K ?_;simp[zo,a8]
    have au:=(X13.1 (Y r H)).1;simp only[zo];rw[X12 (show r<F.length by omega)];simp
   have cq :∀{ob:Nat->C OB},z7 (zt st.ob) ob->∀{wr:W},True:=λ_ {_}=>trivial;have U :∀r,r<gM.length->(Xbu gM.length)[r]?=some r:=λr K=>by simp[K]
   have M :∀{wr:W} {r:Nat},(∀q∈wr,gM.length<=q.1)->r<gM.length->Af (zt st.ob) wr r=zt st.ob r:=λhw K=>EM _ _ _ λq hq e=>by have:=hw q hq;omega
   split at Z
   ·
    rename_i x _;cases h3 with|cons hv bd=>
    cases bd;rename_i u
    have Z:(dR gM.length st.ob x λa' nw=>(match nw with
     | none=>a'=V/\J=F
     | some r=>Cc st.ob r λo=>match o with
      | .box cs=>IR.cellsD cs λcs=>a'=V/\J++[.box cs]=F
      | .row e sz es bl=>AS (!bl.linked) (a'=V/\J++[.row e sz es bl]=F)
      | .map k e es=>a'=V/\J++[.map k e es]=F
      | .zj ..=>False
      | .gone=>False))\/(∃sz e,x=.d (.nil sz)/\0<sz/\AV.own gM.length 0=V/\J++[.row e sz [] .no]=F) \/
       (∃cs rs,x=.agg cs/\XQ gM.length st.ob rs cs λx=>NG st.ob rs λos=>x=V/\J++os=F) \/
       ∃r n e sz es,x=.own r n/\r<gM.length/\J[r]?=some (.row e sz es .no)/\AV.own gM.length n=V/\J.set r .gone++[.row e sz es .no]=F:=by
     unfold Nt at Z;split at Z
     ·rename_i sz _;rcases Z with Z|⟨h0,e,Z,h2⟩
      ·exact .inl (by simpa[dR,Qw] using Z)
      exact .inr (.inl ⟨sz,e,rfl,h0,Z,h2⟩)
     ·rcases Z with Z|⟨rs,Z⟩
      ·exact .inl Z
      exact .inr (.inr (.inl ⟨_,rs,rfl,Z⟩))
     ·rcases Z with Z|Z
      ·exact .inl Z
      rw[AI] at Z;obtain⟨hb,Z⟩:=Z;split at Z
      ·rename_i e sz es hg;exact .inr (.inr (.inr ⟨_,_,e,sz,es,rfl,X26 hb,hg,Z.1,Z.2⟩))
      exact Z.elim
     exact .inl Z
    rcases Z with Z|⟨sz,e,rfl,h0,rfl,rfl⟩|⟨cs,rs,rfl,h9⟩|⟨r,n,e,sz,es,rfl,ct,bm,rfl,rfl⟩;rotate_right
    ·
     have aj:zt st.ob (st.ob.length+gM.length)=none:=by simp[zt]
     have ao:zt st.ob r=some (.row e sz es .no):=by have h2:=(ab r (by omega)).1;rw[X12 (by omega)] at bm;rw[X22 bm] at h2;exact h2
     have bn:=hv.1;cases bn with|own _ _ _ k c a0 c4 hk c5 hb=>
     obtain⟨c6,c7⟩:=c5 e sz es .no ao;obtain⟨g0,_,_,g3⟩:=hR.mem.obj r _ ao;have hp :∃p:C (Nat×Rp),((p=none/\es=[]) \/∃b c c',a7 r=some (b,c)/\p=some (b,(c',c.2+0*sz))/\es.length<=c'/\0+c'<=c.1)/\p=a7 r:=by
      rcases g3 with ⟨f1,f2⟩|⟨b,ar,vs,f,f1,f2,f3,f4,f5,f6,f7,f8⟩
      ·exact⟨none,.inl ⟨rfl,f2⟩,f1.symm⟩
      exact⟨some (b,(ar.1,ar.2+0*sz)),.inr ⟨b,ar,ar.1,f1,rfl,f3,by omega⟩,by rw[f1];simp⟩
     obtain⟨p,c8,c9⟩:=hp;obtain⟨m1,k1⟩:=hR.mem.NO r (st.ob.length+gM.length) e sz 0 es es p ao aj (by omega) (λi Y=>by simp) c8;have bo:=Trk.ok.kept bb k1;refine⟨_,af,?_⟩;have ai :∀q,q<gM.length->q≠st.ob.length+gM.length:=λq hq=>by omega
     have ae:(Xbu gM.length++[st.ob.length+gM.length]).Nodup:=by rw[Xdi];exact⟨List.nodup_range,by simp,λa ha b hb=>by simp at ha hb;omega⟩
     have ax :∀i (Y:i<gM.length),zg (zg (zt st.ob) r (some .gone)) (st.ob.length+gM.length) (some (.row e sz es .no)) i=some ((J.set r .gone)[i]'(by simp;omega))/\A9 ((J.set r .gone)[i]'(by simp;omega))=true:=λi Y=>by
      rw[AO _ _ _ _ (ai i Y)];by_cases be:i=r
      ·subst be;rw[gS];simp[A9]
      rw[AO _ _ _ _ be,List.getElem_set_ne (Ne.symm be)];exact ab i (by omega)
     have ap:=m1.restrict (gM:=J.set r .gone++[.row e sz es .no]) ae (by simp[Q]) (λi Y ag=>by
      simp only[X2,Xd6,X19] at Y;by_cases H:i<gM.length
      ·rw[Xaq (by simpa using H),Xaq (by simp;omega)];simp only[Xed];exact ax i H
      have:i=gM.length:=by omega
      subst this;rw[Xbl (by simp),Xbl (by simp;omega)];simp only[Xd6,Nat.sub_self,Xbg,X18,Q]
      exact⟨gS _ _ _,rfl⟩)
     have a6:zo (J.set r .gone++[.row e sz es .no]) gM.length=some (.row e sz es .no):=by simp only[zo];rw[Xas (by simp;omega)];simp[Q]
     have aq:Cr (Xbu gM.length++[st.ob.length+gM.length]) (zg (zg a7 r none) (st.ob.length+gM.length) p) gM.length=a7 r:=by simp only[Cr];rw[Xas (by simp)];simp[c9]
     refine⟨S1,_,ap,⟨λb o hS=>⟨m1.sS b o hS,m1.kS b o hS⟩,λq hq=>?_,λq hq=>?_⟩,?_,?_⟩
     ·have H:q<gM.length:=by refine Xbs λa8=>hq ?_;simp[zo,a8]
      obtain⟨q1,q2⟩:=bo q H (by simp[zo,H]);have e1:Cr (Xbu gM.length++[st.ob.length+gM.length]) (zg (zg a7 r none) (st.ob.length+gM.length) p) q=zg (zg a7 r none) (st.ob.length+gM.length) p q:=by simp only[Cr];rw[Xaf (by simpa using H)];simp[H]
      have e2:zo (J.set r .gone++[.row e sz es .no]) q=zg (zg (zt st.ob) r (some .gone)) (st.ob.length+gM.length) (some (.row e sz es .no)) q:=by rw[(ax q H).1];simp only[zo];rw[Xaf (by simp;omega),X12]
      unfold DS at q2⊢;rw[e1,e2];exact q2
     ·have H:q<gM.length:=by refine Xbs λa8=>hq ?_;simp[zo,a8]
      simp only[zo];rw[Xaf (by simp;omega)];simp[Q,H]
     ·refine .own _ n _ k c a0 c4 hk (λe' ca cb f' hx=>?_) λcs hx=>?_
      ·rw[a6] at hx;simp only[X21,OB.row.injEq] at hx;obtain⟨rfl,rfl,rfl,rfl⟩:=hx;refine⟨c6,λhn=>?_⟩;have:=c7 hn;unfold JF at *;rwa [aq]
      rw[a6] at hx;simp at hx
     intro q hq;have:q=gM.length:=by simpa[AV.refs] using hq
     rw[this,a6];simp
    rotate_right
    ·
     obtain⟨x',wr,S',hK,m1,k1,bp,aa,cc,a8,bq,bf⟩:=W7 hR.mem (z7.refl _) hv.1 h9;obtain⟨os,⟨rfl,rfl⟩,cd,bg⟩:=RZ hK;refine⟨u,af,?_⟩;have br :∀q∈wr,gM.length<=q.1:=λq hq=>(aa q hq).1;have ah :∀k (hk:k<rs.length),(Xbu gM.length++rs)[gM.length+k]?=some rs[k]:=λk hk=>by rw[Xas (by simp)];simp[hk]
     have bu :∀k (hk:k<rs.length),zo (J++os) (gM.length+k)=some (os[k]'(by omega)):=λk hk=>by simp only[zo];rw[Xas (by omega),Q,Nat.add_sub_cancel_left];simp[show k<os.length by omega]
     have ao :∀k (hk:k<rs.length),Af (zt st.ob) wr rs[k]=some (os[k]'(by omega)):=λk hk=>by rw[EM _ _ _ λq hq e=>(aa q hq).2 (e▸Xad hk)];exact (bg k (by omega) hk).1
     have ae:(Xbu gM.length++rs).Nodup:=by
      rw[Xdi]
      exact⟨List.nodup_range,cc,λa ha b hb e=>by
       have:=a8 b hb;simp at ha
       omega⟩
     refine fin m1 (λr K=>M br K) ae (by simp[Q,cd]) (λi Y ag=>?_) (λq hq=>?_) k1.k (bq _ _ λk hk=>⟨?_,?_⟩) λq hq=>?_
     ·simp only[X2,Xd6] at Y;by_cases H:i<gM.length
      ·rw[Xaq (by simpa using H),Xaq (by omega)];simp only[Xed];rw[M br H];exact ab i (by omega)
      rw[Xbl (by simp;omega),Xbl (by omega)];simp only[Xd6,Q];exact⟨ao _ (by omega),(bg _ (by omega) (by omega)).2⟩
     ·rw[Xaf (by simpa using hq)];exact U q hq
     ·simp only[Cr,ah k hk,Xby]
     ·rw[bu k hk];exact (bg k (by omega) hk).1.symm
     obtain⟨k,hk,rfl⟩:=bf q hq;rw[bu k hk];simp
    rotate_left
    ·
     cases hv.1 with|d _ _ hn=>
     cases hn with|nil=>
     have aj:zt st.ob (st.ob.length+gM.length)=none:=by simp[zt]
     obtain⟨m1,k1⟩:=hR.mem.empty (st.ob.length+gM.length) e sz aj h0;refine⟨_,af,?_⟩;have ai :∀q,q<gM.length->q≠st.ob.length+gM.length:=λq hq=>by omega
     have bc :∀q,q<gM.length->zt st.ob q=zo J q:=λq hq=>by have:=(ab q (by omega)).1;simp only[zt,this,zo];simp[show q<J.length by omega]
     have ae:(Xbu gM.length++[st.ob.length+gM.length]).Nodup:=by rw[Xdi];exact⟨List.nodup_range,by simp,λa ha b hb=>by simp at ha hb;omega⟩
     have ap:=m1.restrict (gM:=J++[.row e sz [] .no]) ae (by simp[Q]) (λi Y ag=>by
      simp only[X2,Xd6,X19] at Y;by_cases H:i<gM.length
      ·rw[Xaq (by simpa using H),Xaq (by omega)];simp only[Xed];rw[AO _ _ _ _ (ai i H)];exact ab i (by omega)
      have:i=gM.length:=by omega
      subst this;rw[Xbl (by simp),Xbl (by omega)];simp only[Xd6,Nat.sub_self,Xbg,Q]
      exact⟨gS _ _ _,rfl⟩)
     have a6:zo (J++[.row e sz [] .no]) gM.length=some (.row e sz [] .no):=by simp only[zo];rw[Xas (by omega)];simp[Q]
     refine⟨S1,_,ap,⟨λb o hS=>⟨m1.sS b o hS,m1.kS b o hS⟩,λr K=>?_,λr K=>?_⟩,?_,?_⟩
     ·have H:r<gM.length:=by refine Xbs λa8=>K ?_;simp[zo,a8]
      obtain⟨q1,q2⟩:=bb r H (by simp[zo,H]);have e1:Cr (Xbu gM.length++[st.ob.length+gM.length]) (zg a7 (st.ob.length+gM.length) none) r=a7 r:=by simp only[Cr];rw[Xaf (by simpa using H)];simp[H,AO _ _ _ _ (ai r H)]
      have e2:zo (J++[.row e sz [] .no]) r=zt st.ob r:=by rw[bc r H];simp only[zo];rw[Xaf (by omega)]
      unfold DS at q2⊢;rw[e1,e2];exact q2
     ·have H:r<gM.length:=by refine Xbs λa8=>K ?_;simp[zo,a8]
      simp only[zo];rw[Xaf (by omega)];simp[Q,H]
     ·refine .own _ 0 _ 0 0 none rfl rfl (λe' ca cb f' hx=>?_) λcs hx=>?_
      ·rw[a6] at hx;simp only[X21,OB.row.injEq] at hx;obtain⟨rfl,rfl,rfl,rfl⟩:=hx;refine⟨Xak _,λ_=>.inl ⟨?_,rfl,_,rfl⟩⟩;simp only[Cr];rw[Xas (by simp)];simp
      rw[a6] at hx;simp at hx
     intro q hq;have:q=gM.length:=by simpa[AV.refs] using hq
     rw[this,a6];simp
    obtain⟨x',nw,wr,S',hK,m1,k1,bp,aa,K⟩:=UR hR.mem (z7.refl _) hv.1 hv.2 Z;refine⟨u,af,?_⟩;rcases K with ⟨rfl,r1,r2,r3⟩|⟨r,rfl,a8,cf,cg,ch⟩
    ·obtain⟨rfl,rfl⟩:=hK;have hO :∀r,r<gM.length->zo J r=Af (zt st.ob) wr r:=λr K=>by rw[M aa K];have:=(ab r (by omega)).1;simp only[zt,this,zo];simp[show r<J.length by omega]
     refine fin m1 (λr K=>M aa K) List.nodup_range (by simp[Q]) (λi Y ag=>?_) U k1.k (Ob r1 r3 U hO) λr K=>?_
     ·simp only[Xd6] at Y;simp only[Xed];rw[M aa Y];exact ab i ag
     rw[hO r (r3 r K),M aa (r3 r K)];exact r2 r K
    simp only[Ao] at hK;obtain⟨o,ho,hK⟩:=hK;obtain⟨cj,rfl,rfl⟩:A9 o=true/\x'=V/\J++[o]=F:=by
     cases o with
     | box cs=>simpa only[KO] using hK
     | row e sz es f=>exact (AI _ _).1 hK
     | map k e es=>exact⟨rfl,hK⟩
     | zj=>exact hK.elim
     | gone=>exact hK.elim
    have aq:Cr (Xbu gM.length++[r]) a7 gM.length=a7 r:=by simp only[Cr];rw[Xas (by simp)];simp
    have a6:zo (J++[o]) gM.length=some o:=by simp only[zo];rw[Xas (by omega)];simp[Q]
    have bw:Af (zt st.ob) wr r=some o:=(EM _ _ _ cf).trans ho;have ae:(Xbu gM.length++[r]).Nodup:=by rw[Xdi];exact⟨List.nodup_range,by simp,λa ha b hb=>by simp at ha hb;omega⟩
    refine fin m1 (λr K=>M aa K) ae (by simp[Q]) (λi Y ag=>?_) (λq hq=>?_) k1.k ?_ λq hq=>?_
    ·simp only[X2,Xd6,X19] at Y;by_cases H:i<gM.length
     ·rw[Xaq (by simpa using H),Xaq (by omega)];simp only[Xed];rw[M aa H];exact ab i (by omega)
     have:i=gM.length:=by omega
     subst this;rw[Xbl (by simp),Xbl (by omega)];simp only[Xd6,Nat.sub_self,Xbg,Q];exact⟨bw,cj⟩
    ·rw[Xaf (by simpa using hq)];exact U q hq
    ·exact cg _ _ aq (a6.trans bw.symm)
    rw[ch q hq,a6];simp
   ·
    rename_i ck;obtain⟨bx,wr,S',hK,m1,k1,bp,aa,K⟩:=RF hR.mem (z7.refl _) h3 Z;obtain⟨rfl,rfl⟩:=hK;have ay :∀{α β:Type} {l:O α} {k:O β} {R:α->β->Prop},Cs R l k->l.length=k.length:=by
     intro α β l k R h;induction h with
     | nil=>rfl
     | cons _ _ ih=>simp[ih]
    have ah :∀{l:O AV} {k:O A} {R:AV->A->Prop},Cs R l k->∀i (Y:i<l.length),∃v,k[i]?=some v/\R l[i] v:=by
     intro l k R h;induction h with
     | nil=>intro i Y;simp at Y
     | cons h _ ih=>
      intro i Y;cases i with
      | zero=>exact⟨_,rfl,h⟩
      | succ i=>exact ih i (by simpa using Y)
    have cm:us.length≠1:=by
     intro he;have:=ay h3;match an,this with
     | [x],_=>exact ck x rfl
     | [],h=>simp at h;omega
     | _::_::_,h=>simp at h;omega
    have bz:nP us=.tuple us.toArray:=by
     match us,cm with
     | [],_=>rfl
     | [_],h=>exact absurd rfl h
     | _::_::_,_=>rfl
    rw[bz] at af;refine⟨_,af,?_⟩;have hO :∀r,r<gM.length->zo J r=Af (zt st.ob) wr r:=λr K=>by rw[M aa K];have:=(ab r (by omega)).1;simp only[zt,this,zo];simp[show r<J.length by omega]
    refine fin m1 (λr K=>M aa K) List.nodup_range (by simp[Q]) (λi Y ag=>?_) U k1.k ?_ λr cn=>?_
    ·simp only[Xd6] at Y;simp only[Xed];rw[M aa Y];exact ab i ag
    ·refine .Ca bx _ (λi=>us.getD i Xck) (by simp[ay K]) (λi Y=>?_) λi Y=>?_
     ·obtain⟨v,q1,_⟩:=ah K i Y;simp[q1]
     obtain⟨v,q1,q2,q3,q4⟩:=ah K i Y;simp only[Xa8,q1,Xaz];exact Ob q2 q4 U hO
    obtain⟨c,cp,bh⟩:=AV.Bs bx r (by simpa[AV.refs] using cn);obtain⟨j,hj,rfl⟩:=Xai cp;obtain⟨v,q1,q2,q3,q4⟩:=ah K j hj;rw[hO r (q4 r bh),M aa (q4 r bh)];exact q3 r bh
def Zf (φ:Nat->C (Nat×Rp))(ob:Nat->C OB):Nat->Prop:=λb=>∃r c,ob r≠none/\φ r=some (b,c)
def Mem.here {E:Env}{w:B}{S:Sc}{φ:Nat->C (Nat×Rp)}{ob:Nat->C OB}(m:Mem E w S φ ob) : Mem ⟨w,S,Zf φ ob,E.wl,E.gb,m.T7 λ_ h=>h⟩ w S φ ob:=
 ⟨m.obj,m.inj,m.GJ,λ_ _ h=>h,λ_ _ _=>rfl,m.bS,λ_ _ h _ _=>h,λ_ _ _=>rfl,Xak _,λr b c F H=>⟨(m.ow r b c F H).1,.inr ⟨r,c,F,H⟩⟩,⟨rfl,rfl,rfl,.inr (Xak _)⟩⟩
def Mem.trans {E:Env}{w w':B}{S S':Sc}{φ φ':Nat->C (Nat×Rp)}{ob ob':Nat->C OB}(m:Mem E w S φ ob){hg:GS E.wl E.gb (Zf φ ob) S w}(F:Mem ⟨w,S,Zf φ ob,E.wl,E.gb,hg⟩ w' S' φ' ob') : Mem E w' S' φ' ob':=by
 have K :∀b,b<E.w0.heap.size->¬ E.PB b->¬ Zf φ ob b:=by
  rintro b H J ⟨r,c,U,M⟩;rcases (m.ow r b c U M).2 with h|h
  ·omega
  exact J h
 refine⟨F.obj,F.inj,F.GJ,λb o h=>F.sS b o (m.sS b o h),λb o h=>(F.kS b o (m.sS b o h)).trans (m.kS b o h),F.bS,λb o h H J=>?_,λb H J=>?_,Xay m.sz F.sz,λr b c H J=>?_,?_⟩
 ·exact m.nS b o (F.nS b o h (Xb4 H m.sz) (K b H J)) H J
 ·exact (F.fr b (Xb4 H m.sz) (K b H J)).trans (m.fr b H J)
 ·obtain⟨U,M⟩:=F.ow r b c H J;refine⟨U,?_⟩;rcases M with M|⟨V,Y,Z,h6⟩
  ·exact .inl (Xay m.sz M)
  exact (m.ow V b Y Z h6).2
 obtain⟨a1,a2,a3,Q⟩:=m.os;obtain⟨b1,b2,b3,b4⟩:=F.os;refine⟨b1.trans a1,b2.trans a2,b3.trans a3,?_⟩;rcases Q with Q|Q
 ·exact .inl Q
 rcases b4 with b4|b4
 ·exact .inl b4
 exact .inr (Xay Q b4)
def IU :∀{ob:O (C OB)} {n:Nat},I6 ob n=true->∀r,n<=r->ob.getD r none=none
 | [],_,_,r,_=>by simp
 | _::l,n+1,h,r+1,F=>by simpa using IU (ob:=l) (n:=n) (by simpa[I6] using h) r (by omega)
 | none::l,0,h,0,_=>by simp
 | none::l,0,h,r+1,_=>by simpa using IU (ob:=l) (n:=0) (by simpa[I6] using h) r (by omega)
 | some _::_,0,h,_,_=>by simp[I6] at h
def Cs.getA {R:AV->A->Prop} :∀{l:O AV} {k:O A},Cs R l k->l.length=k.length/\∀i (F:i<l.length),R l[i] (k.getD i Xck)
 | _,_,.nil=>⟨rfl,λi F=>by simp at F⟩
 | _,_,.cons h t=>by
  obtain⟨a,b⟩:=Cs.getA t;refine⟨by simp[a],λi F=>?_⟩;cases i with
  | zero=>simpa using h
  | succ i=>simpa using b i (by simpa using F)
def d5 {wl : WL}{cx : Cx}(hT : xD P cx.T)(hC : Re wl P cx)(hD : Xq wl P cx){f : Xdy}{fn : Func}(hf : P.funcs[f]? = some fn)(Y : fn.name ≠ "runtime.NumGoroutine") {args:O AV} {ob:O (C OB)} {K:AV->O (C OB)->Prop} (h:qZ cx fn args ob K):Po wl P f args ob K:=by
 obtain⟨a8,h⟩:=h;cases hb:fn.body with
 | none=>simp[hb] at h
 | some c=>
  simp only[hb] at h;refine⟨⟨fn,hf,Y,by rw[hb];rfl⟩,λE hE w S φ H J m=>?_⟩;subst hE;obtain⟨aa,J⟩:=J.getA;have zx:H.size=args.length:=by simpa using aa.symm
  have m0:=m.here;refine calls_of_wp hf hb (Q9 (E:=⟨w,S,Zf φ (λr=>ob.getD r none),E.wl,E.gb,m.T7 λ_ h=>h⟩) (tr:=⟨cx.np,φ,λr=>ob.getD r none⟩) hT hC hD rfl c h ⟨S,φ,⟨?_,λi hi=>?_,rfl,m0⟩,λr V h0=>⟨h0,.refl _ _ _⟩⟩ ?_)
  ·simp[zx]
  ·simp only[Xcz];split
   ·rename_i ai;have:=J i ai;have e:(H++Array.replicate (fn.ntmps-H.size) Xck).getD i Xck=H.toList.getD i Xck:=by
     have:i<H.size:=by omega
     simp[Xbm this]
    rw[e];exact this
   rw[List.getElem_replicate];exact⟨.dead _,GT _⟩
  intro e st a w' hl Z;obtain⟨S1,M,Z,ab⟩:=Z;have ae :∀id,e≠.exit id:=λid he=>by subst he;exact hl
  have aj:W2 cx st fn.results.toList (λF=>(match F with
   | [a]=>K a st.ob
   | F=>K (.Ca F) st.ob)):=by
   cases e with
   | exit id=>exact absurd rfl (ae id)
   | normal=>exact hl
   | ret=>exact hl
  obtain⟨F,U,h1,h2,h3⟩:=Ks hT Z aj;have af:=RG h2;have ag :∃r,K r st.ob/\kI S1 w' M (zt st.ob) r (nP U)/\oA (zt st.ob) r:=by
   have ah :∀{F:O AV} {U:O A},Cs (λx v=>kI S1 w' M (zt st.ob) x v/\oA (zt st.ob) x) F U->kI S1 w' M (zt st.ob) (.Ca F) (.tuple U.toArray)/\oA (zt st.ob) (.Ca F):=by
    intro F U h;obtain⟨q1,q2⟩:=h.getA;refine⟨.Ca F U.toArray (λi=>U.getD i Xck) (by simp[q1]) (λi hi=>?_) λi hi=>(q2 i hi).1,λr V=>?_⟩
    ·have:i<U.length:=by omega
     simp[this]
    obtain⟨c,ak,al⟩:=AV.Bs F r (by simpa[AV.refs] using V);obtain⟨j,hj,rfl⟩:=Xai ak;exact (q2 j hj).2 r al
   split at h1
   ·cases h3 with|cons hv a6=>
    cases a6;exact⟨_,h1,hv.1,hv.2⟩
   rename_i hn;obtain⟨q1,q2⟩:=ah h3;refine⟨_,h1,?_,q2⟩;match F,U,h3,hn with
   | [],[],_,_=>exact q1
   | [_],[_],_,hn=>exact absurd rfl (hn _)
   | _::_::_,_::_::_,_,_=>exact q1
  obtain⟨r,g1,g2,g3⟩:=ag;have hK:Kept w S φ (λr=>ob.getD r none) w' S1 M (zt st.ob):=by
   refine⟨λb o hS=>⟨Z.mem.sS b o hS,Z.mem.kS b o hS⟩,λr V=>?_,λr V=>?_⟩
   ·refine (ab r (Xbs λa7=>V (IU a8 r a7)) V).2
   exact (ab r (Xbs λa7=>V (IU a8 r a7)) V).1
  have:a.defers=[]/\∃v,(results fn a.tmps).run P w'=.ok v w'/\∃v',Ending.returned v=.returned v'/\∃S' φ' r Q,K r Q/\Mem E w' S' φ' (λr=>Q.getD r none)/\Kept w S φ (λr=>ob.getD r none) w' S' φ' (λr=>Q.getD r none)/\
    kI S' w' φ' (λr=>Q.getD r none) r v'/\oA (λr=>Q.getD r none) r:=
   ⟨Z.df,_,af,_,rfl,S1,M,r,st.ob,g1,m.trans Z.mem,hK,g2,g3⟩
  cases e with
  | exit id=>exact absurd rfl (ae id)
  | normal=>exact this
  | ret=>exact this
end
end Go.AX
end
