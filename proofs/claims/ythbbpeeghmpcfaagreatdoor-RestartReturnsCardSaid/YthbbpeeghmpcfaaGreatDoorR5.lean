/-
  Texts of one proof, packed.
-/
import Derived.Test.YthbbpeeghmpcfaaGreatDoorR4
set_option linter.all false
set_option maxRecDepth 100000
set_option maxHeartbeats 4000000
open List renaming length_map→X1,length_append→X2,mem_singleton→X11,getElem?_eq_getElem→X12,getElem?_eq_some_iff→X13,length_drop→X14,length_take→X15,length_replicate→X17,length_set→X18,mem_append→X20
open Option.some renaming injEq→X21,inj→X22
open Prod.mk renaming injEq→X23
open Bool renaming and_eq_true→X24
open Nat renaming le_of_ble_eq_true→X26,eq_of_beq_eq_true→X27,mul_le_mul_right→X28,add_mul→X29
open Option renaming none→Xan
open Go renaming run_underlying→Xae,undef→Xck,typeInfo→Xdx,maxLen→Xc7
open Nat renaming beq→Xal,blt→Xcu
open Go.Instr renaming buildSlice→Xdu
open Array renaming range→Xcv
open Go.Value renaming cells→Xe2
section
namespace Go.AX
section
variable {P:Program} {T:TT} {E:Env} {w:B} {S:Sc} {φ:Nat->C (Nat×Rp)} {ob:Nat->C OB}
def m7 (cells:Array A)(off:Nat)(v:A)(h:off+v.cells.size<=cells.size) : v.cells.zipIdx.foldl (λH (c,j)=>H.setIfInBounds (off+j) c) cells=(BC cells.toList off v.cells.toList).toArray:=by
 have hg:=Great.foldl_set off v.cells.toList 0 cells;have e:v.cells.zipIdx.foldl (λH (c,j)=>H.setIfInBounds (off+j) c) cells=(v.cells.toList.zipIdx 0).foldl (λH (x:A×Nat)=>H.setIfInBounds (off+x.2) x.1) cells:=by rw[<- Array.foldl_toList,Array.toList_zipIdx]
 rw[e];apply Array.ext_getElem?;intro k;rw[hg.2 k,Xcy];have J:=ED cells.toList off v.cells.toList (by simpa using h) k;simp only[Xba,Xe5,Array.getElem?_toList] at J⊢;rw[J];by_cases F:off<=k/\k<off+v.cells.size
 ·rw[Xa2 F,Xa2 ⟨F.1,F.2,by omega⟩]
 rw[Xa1 F,Xa1 (λh=>F ⟨h.1,h.2.1⟩)]
def MT (S:Sc)(w:B)(φ:Nat->C (Nat×Rp))(ob:Nat->C OB)(F:O AV)(vs:Array A):Prop:=
 vs.size=F.length/\∀i (H:i<F.length),∃u,vs[i]?=some u/\F[i].one=true/\kI S w φ ob F[i] u
def MT.over {J xs:O AV}{vs K:Array A}(h:MT S w φ ob J vs)(k:MT S w φ ob xs K){off:Nat}(F:off+xs.length<=J.length) : MT S w φ ob (BC J off xs) (BC vs.toList off K.toList).toArray:=by
 have Z:off+K.toList.length<=vs.toList.length:=by simp[h.1,k.1];omega
 refine⟨by rw[Xci,BN _ _ _ Z,BN _ _ _ F];simp[h.1],λi M=>?_⟩;have e1:=ED J off xs F i;have e2:=ED vs.toList off K.toList Z i;rw[BN _ _ _ F] at M;have Q:i<(BC J off xs).length:=by rw[BN _ _ _ F];exact M
 rw[X12 Q] at e1;simp only[Xba,k.1,Array.getElem?_toList] at e2;by_cases H:off<=i/\i<off+xs.length
 ·rw[Xa2 H,X12 (by omega)] at e1;rw[Xa2 H] at e2;obtain⟨u,U,V,Y⟩:=k.2 (i-off) (by omega);refine⟨u,by rw[Xe5,e2];exact U,?_,?_⟩
  ·rw[X22 e1];exact V
  rw[X22 e1];exact Y
 rw[Xa1 H,X12 M] at e1;rw[Xa1 H] at e2;obtain⟨u,U,V,Y⟩:=h.2 i M;refine⟨u,by rw[Xe5,e2];exact U,?_,?_⟩
 ·rw[X22 e1];exact V
 rw[X22 e1];exact Y
def ZJ {H xs:O AV}{off:Nat}(h :∀c∈H,oA ob c)(k :∀c∈xs,oA ob c) :∀c∈BC H off xs,oA ob c:=by
 intro c F;simp only[BC,X20] at F;rcases F with (F|F)|F
 ·exact h c (Xdr F)
 ·exact k c F
 exact h c (List.mem_of_mem_drop F)
inductive Cs {α β:Type}(R:α->β->Prop):List α->List β->Prop
 | nil:Cs R [] []
 | cons {a:α} {b:β} {l:List α} {k:List β} (h:R a b) (hs:Cs R l k):Cs R (a::l) (b::k)
def Cs.imp {α F:Type}{R H:α->F->Prop}{l:O α}{k:O F}(h:Cs R l k)(f :∀a b,R a b->H a b):Cs H l k:=by
 induction h with
 | nil=>exact .nil
 | cons h _ J=>exact .cons (f _ _ h) J
def KX (S:Sc)(w:B)(φ:Nat->C (Nat×Rp))(ob:Nat->C OB)(F:O (Nat×AV))(vs:O (Nat×A)):Prop:=
 Cs (λp q=>p.1=q.1/\kI S w φ ob p.2 q.2/\oA ob p.2) F vs
def Nr {H:Nat->C (Nat×Nat)} :∀{ps:O (Nat×AV)} {vs:O (Nat×A)} (_:KX S w φ ob ps vs) {V:O AV} {cells:Array A} {K:O AV->Prop} (_:MT S w φ ob V cells) (_ :∀c∈V,oA ob c) (_:LJ.go H ps V K),∃J F,K J/\Instr.fill H cells vs=some F/\MT S w φ ob J F/\∀c∈J,oA ob c
 | [],[],_,V,cells,K,hr,hc,h=>⟨V,cells,h,rfl,hr,hc⟩
 | (i,v)::ps,(j,u)::vs,Y,V,cells,K,hr,hc,h=>by
  cases Y with|cons h1 h2=>
  obtain⟨Z,hv,a6⟩:=h1;simp only at Z hv a6;subst Z;simp only[LJ.go] at h;cases U:H i with
  | none=>simp[U] at h
  | some q=>
   obtain⟨off,size⟩:=q;simp only[U,HM,AI,HS] at h;obtain⟨l,hl,zx,a7,h⟩:=h;have M:l.length=size:=X27 zx;obtain⟨k1,k2⟩:=Qd hv hl;have a8:MT S w φ ob l u.cells:=⟨k1,k2⟩;have Q:off+u.cells.size<=cells.size:=by rw[k1,hr.1];exact a7
   obtain⟨J,F,g1,g2,g3,g4⟩:=Nr h2 (hr.over a8 a7) (ZJ (off:=off) hc (Kq a6 hl)) h;refine⟨J,F,g1,?_,g3,g4⟩;rw[Instr.fill];simp only[U];rw[Xa1 (by simp[k1,M];rw[k1,M] at Q;omega),m7 _ _ _ Q];exact g2
 | [],_::_,Y,_,_,_,_,_,_=>by cases Y
 | _::_,[],Y,_,_,_,_,_,_=>by cases Y
def QU {t:Nat}(F:xD P T)(H:(T.get t).kind.Cy≠none){i:TypeInfo}{z:A}(J:P.info? t=some i)(K:i.zero=some z):MT S w φ ob ((T.get t).zero.map .d) z.cells/\∀c∈(T.get t).zero.map AV.d,oA ob c:=by obtain⟨M,_,Q⟩:=d4 (F.of H) J K S w φ ob;refine⟨⟨M,Q⟩,λc U=>?_⟩;obtain⟨x,_,rfl⟩:=Xau.1 U;exact A0 ob x
def W5 (Y:xD P T){t:Nat}{ps:O (Nat×AV)}{vs:Array (Nat×A)}{K:AV->Prop}(hp:KX S w φ ob ps vs.toList)(h:LJ T t ps K) : ∃V u,K V/\(Instr.build t vs).run P w=.ok u w/\kI S w φ ob V u/\oA ob V:=by
 unfold LJ at h;split at h
 ·rename_i fs hk;have J:(T.get t).kind.Cy≠none:=by rw[hk];simp[TK.Cy]
  have U:=Y.of J;obtain⟨i,z,hi,h1,h2,hz,h4,h5,_⟩:=U.Dg;obtain⟨hr,hc⟩:=QU (S:=S) (w:=w) (φ:=φ) (ob:=ob) Y J hi hz;obtain⟨a7,H,Z,g2,g3,g4⟩:=Nr hp hr hc h;rw[HG] at Z;refine⟨_,.agg H,Z,?_,PE g3.1 g3.2,JQ g4⟩;refine run_build w t vs H ?_;have M:=U.kind;rw[hk] at M;obtain⟨_,_,F,hu,hF,_⟩:=M;have Q:F.toList.mapM (λf=>(P.info? f.type).map λi=>(f.offset,i.size))=some (fs.map λx=>(x.1,x.2.1)):=by
   clear g2 Z h hu hk;generalize F.toList=F' at hF;induction F' generalizing fs with
   | nil=>cases fs with
    | nil=>rfl
    | cons=>simp at hF
   | cons f F' ih=>
    cases fs with
    | nil=>simp at hF
    | cons x fs=>
     simp only[Xbk,Xdo,X23] at hF;obtain⟨⟨a1,a2,a3⟩,a4⟩:=hF;have:=ih fs a4;cases hq:P.info? f.type with
     | none=>simp[hq] at a2
     | some ag=>simp[hq] at a2;simp[List.mapM_cons,hq,this,a1,a2]
  unfold Program.built;simp only[hi,hu,hz,Q]
  have a8:(λx=>(fs.map λx=>(x.1,x.2.1)).toArray[x]?)=(λ(i:Nat)=>match (fs[i]?:C (Nat×Nat×Nat)) with
   | some (o,s,_)=>some (o,s)
   | none=>none):=by
   funext k;simp only[Xe5,Xej];cases fs[k]?<;>rfl
  rw[a8];exact g2
 ·rename_i n e hk;have J:(T.get t).kind.Cy≠none:=by rw[hk];simp[TK.Cy]
  have U:=Y.of J;rw[AI] at h;obtain⟨aa,h⟩:=h;have ab:=Y.of (Ar aa);obtain⟨i,z,hi,h1,h2,hz,h4,h5,_⟩:=U.Dg;obtain⟨ie,ze,ae,a6,_⟩:=ab.Dg;obtain⟨hr,hc⟩:=QU (S:=S) (w:=w) (φ:=φ) (ob:=ob) Y J hi hz;obtain⟨a7,H,Z,g2,g3,g4⟩:=Nr hp hr hc h;rw[HG] at Z;refine⟨_,.agg H,Z,?_,PE g3.1 g3.2,JQ g4⟩;refine run_build w t vs H ?_;unfold Program.built;simp only[hi,PG Y hk,hz,ae]
  have key :∀(vs:O (Nat×A)) (c c':Array A),Instr.fill (λi=>match Xcu i n with
    | true=>some (i*(T.get e).size,(T.get e).size)
    | false=>none) c vs=some c'->Instr.fill (λi=>some (i*ie.size,ie.size)) c vs=some c':=by
   intro vs;induction vs with
   | nil=>intro c c' h;exact h
   | cons v vs ih=>
    intro c c' h;obtain⟨j,v⟩:=v;rw[Instr.fill] at h⊢;cases hb:Xcu j n with
    | false=>simp[hb] at h
    | true=>
     simp only[hb] at h;rw[a6];split at h
     ·simp at h
     rename_i af;simp only[];rw[Xa1 af];have:=ih _ _ h;rw[a6] at this;exact this
  exact key _ _ _ g2
 exact h.elim
def gA (f:Nat->C OB)(r:Nat)(x y:C OB):zg (zg f r x) r y=zg f r y:=by funext i;by_cases h:i=r<;>simp[zg,h]
def AQ (ob:Nat->C OB)(a b:W):Af ob (a++b)=Af (Af ob a) b:=by
 induction a generalizing ob with
 | nil=>rfl
 | cons x a F=>obtain⟨r,o⟩:=x;simp[Af,F]
def RQ {obl:O (C OB)}{sz:Nat} :∀{U:O (Nat×AV)} {vs:O (Nat×A)} {i:Nat} {S:Sc} {ob:Nat->C OB} {K:O D->W->Prop} (_:Mem E w S φ ob) (_:z7 (λr=>obl.getD r none) ob) (_:Cs (λp q=>p.1=q.1/\kI S w φ ob p.2 q.2/\oA (λr=>obl.getD r none) p.2) U vs) (_:Eg.elems obl sz i U K), ∃es wr S',K es wr/\Mem E w S' φ (Af ob wr)/\Kept w S φ ob w S' φ (Af ob wr)/\z7 (λr=>obl.getD r none) (Af ob wr)/\Xj obl wr/\es.length=vs.length/\ vs=((vs.map (·.2)).zipIdx i).map (λx=>(x.2,x.1))/\(∀j (J:j<es.length),es[j].cells.length=sz)/\∀j (J:j<es.length) (af:j<vs.length),zf S' w es[j] vs[j].2
 | [],[],i,S,ob,K,m,V,_,h=>⟨[],[],S,h,m,.refl w S φ ob,V,λ_ _ H=>by simp at H,rfl,rfl,λj J=>by simp at J,λj J=>by simp at J⟩
 | (j,v)::U,(j',u)::vs,i,S,ob,K,m,V,M,h=>by
  cases M with|cons h1 h2=>
  obtain⟨Q,hv,Z⟩:=h1;simp only at Q hv Z;subst Q;simp only[Eg.elems] at h;cases hb:Xal i j with
  | false=>simp[hb] at h
  | true=>
   have a6:i=j:=X27 hb;subst a6;simp only[hb] at h;obtain⟨x,wr,S1,Y,m1,k1,hd,a7,a8⟩:=Di m V hv h;rw[AI] at Y;obtain⟨zx,Y⟩:=Y;have aa:Cs (λ(p:Nat×AV) (q:Nat×A)=>p.1=q.1/\kI S1 w φ (Af ob wr) p.2 q.2/\oA (λr=>obl.getD r none) p.2) U vs:=by
    refine h2.imp λp q F=>⟨F.1,k1.Ke (λr hr=>?_) F.2.1,F.2.2⟩;have h3:=F.2.2 r hr;rcases V r with e1|⟨e,ag,es,f,e1,e2⟩
    ·rw[e1];exact h3
    rw[e2];simp
   obtain⟨es,ab,S2,g1,g2,g3,g4,g5,g6,g7,g8,g9⟩:=RQ m1 a7 aa Y;refine⟨x::es,wr++ab,S2,g1,by rw[AQ];exact g2,by rw[AQ];exact k1.trans g3,by rw[AQ];exact g4,λr o H=>?_,by simp[g6],?_,λk hk=>?_,λk hk ae=>?_⟩
   ·rcases X20.1 H with H|H
    ·exact a8 r o H
    exact g5 r o H
   ·simp only[Xbk,List.zipIdx_cons];rw[<- g7]
   ·cases k with
    | zero=>exact X27 zx
    | succ k=>exact g8 k (by simpa using hk)
   cases k with
   | zero=>exact hd.mono g3.k
   | succ k=>exact g9 k (by simpa using hk) (by simpa using ae)
 | [],_::_,_,_,_,_,_,_,M,_=>by cases M
 | _::_,[],_,_,_,_,_,_,M,_=>by cases M
def CQ {obl:O (C OB)}{r:Nat}(h:obl[r]?=some none):obl.getD r none=none/\r<obl.length:=by obtain⟨F,H⟩:=X13.1 h;exact⟨by simp[h],F⟩
def z7.none {ob ob':Nat->C OB}(h:z7 ob ob'){r:Nat}(F:ob r=Xan):ob' r=Xan:=by
 rcases h r with e|⟨e,sz,H,f,e1,_⟩
 ·rw[e,F]
 rw[F] at e1;simp at e1
def NB {t e:Nat}(H:P.underlying t=some (.slice e)){J:TypeInfo}(F:P.info? e=some J) : (Xdu t 0 #[]).run P w=.ok (.slice (some ⟨w.heap.size,0,none⟩) 0 0) (w.alloc (.cells #[] e)):=by
 have K:Xcv 0=#[]:=by simp
 simp[Xdu,Xae H,sizeOf,Xdx,F,Instr.fill,newRow,K]
def Kw {obl:O (C OB)}(hT:xD P T)(m:Mem E w S φ (λr=>obl.getD r none)){t len self:Nat}{ps:O (Nat×AV)}{vs:Array (Nat×A)}{K:AV->W->Prop} (hp:KX S w φ (λr=>obl.getD r none) ps vs.toList) (h:Eg T t len self ps obl K) : ∃af wr u w',K af wr/\(∀r o,(r,o)∈wr->r<obl.length)/\(Xdu t len vs).run P w=.ok u w'/\zP E w S φ (λr=>obl.getD r none) af wr u w':=by
 unfold Eg at h;split at h
 ·rename_i e hk;rw[En,AI,AI] at h;obtain⟨Z,Q,al,h⟩:=h;rw[X24] at Q;obtain⟨an,ao⟩:=Q;have H:0<(T.get e).size:=X26 an;have bh:len*(T.get e).size<=16777216:=X26 ao;obtain⟨ap,aq⟩:=CQ Z;have ar:=hT.of (Ar al);obtain⟨ie,z,ag,a6,bi,hz,bj,_⟩:=ar.Dg;obtain⟨es,wr,S1,hK,m1,k1,au,ax,bk,ay,U,a7⟩:=RQ m (z7.refl _) hp h;rw[AI] at hK;obtain⟨ah,hK⟩:=hK;have az:es.length=len:=X27 ah;let F:=vs.toList.map (·.2);have ai:F.length=len:=by simp only[F,X1];omega
  have ba :∀v∈F,v.cells.size=(T.get e).size:=by
   intro v Y;obtain⟨j,V,rfl⟩:=Xai Y;have bb:j<vs.toList.length:=by simpa[F] using V
   have:=(a7 j (by omega) bb).cells.1;rw[U j (by omega)] at this;simpa[F] using this
  have bc :∀r o,(r,o)∈wr++[(self,OB.row e (T.get e).size es .no)]->r<obl.length:=by
   intro r o Y;rcases X20.1 Y with Y|Y
   ·obtain⟨e',bl,bm,f',e1,_⟩:=ax r o Y;exact Cb obl r _ e1
   simp only[X11,X23] at Y;rw[Y.1];exact aq
  obtain⟨cells,aj,bd,a8⟩ :∃cells:Array A,(Xdu t len vs).run P w=.ok (.slice (some ⟨w.heap.size,0,none⟩) len len) (w.alloc (.cells cells e))/\cells.size=len*(T.get e).size/\
    ∀i j (J:i<F.length) (_:j<(T.get e).size),cells[i*(T.get e).size+j]?=F[i].cells[j]?:=by
   by_cases h0:len=0
   ·subst h0;have:vs=#[]:=by
     have:vs.toList.length=0:=by omega
     exact Array.toList_eq_nil_iff.1 (Xag this)
    subst this;exact⟨#[],NB (Av hT hk) ag,by simp,λi j J=>by rw[ai] at J;exact absurd J (Nat.not_lt_zero _)⟩
   obtain⟨r,g1,g2,g3⟩:=Great.fill_dense H F 0 ((Xcv (len*(T.get e).size)).map (z.cells[· % z.cells.size]!)) ba (by simp[ai]);refine⟨r,?_,by simpa using g2,λi j J V=>?_⟩
   ·have aa:Instr.fill (λi=>some (i*ie.size,ie.size)) ((Xcv (len*ie.size)).map (z.cells[· % z.cells.size]!)) vs.toList=some r:=by rw[a6,ay];exact g1
    exact run_buildSlice w t e len vs r ie z (Av hT hk) ag hz (by rw[a6];omega) (by rw[a6];exact Nat.mul_ne_zero h0 (by omega)) aa
   rw[g3];have ab:(i+1)*(T.get e).size<=F.length*(T.get e).size:=X28 _ J;rw[X29] at ab;rw[Xa2 ⟨by omega,by rw[Xbc];omega⟩];have e1:(i*(T.get e).size+j)/(T.get e).size=i:=by rw[Xc6,Nat.mul_add_div H,Xee V,Xcy]
   have e2:(i*(T.get e).size+j)%(T.get e).size=j:=by rw[Xc6,Nat.mul_add_mod,Xbf V]
   rw[e1,e2,Nat.sub_zero,X12 J];rfl
  refine⟨_,_,_,_,hK,bc,aj,?_⟩
  obtain⟨m2,k2⟩:=m1.alloc self (len,0) (.row e (T.get e).size es .no) cells e (au.none ap) (λr hr=>by simp[OB.refs] at hr) (λbe=>by
   refine⟨H,λi J=>U i J,λi J j V=>?_,.inr ⟨w.heap.size,(len,0),cells,λi j=>cells.getD (i*(T.get e).size+j) Xck,gS _ _ _,heap_alloc_new w _,by simp only;omega,?_,Nat.le_of_eq ((Xbc _).trans bd.symm),λi j J V=>?_,λi J j V=>?_,λo _ ho=>absurd (m1.bS _ _ ho) (Xep _),λ_ _ _ _ h=>nomatch h⟩⟩
   ·have ae:i<vs.toList.length:=by omega
    obtain⟨_,q⟩:=(a7 i J ae).cells;obtain⟨u,q1,q2,q3⟩:=q j V;exact q2
   ·have:len<=len*(T.get e).size:=Nat.le_mul_of_pos_right _ H;simp only[Xc7];omega
   ·have ab:(i+1)*(T.get e).size<=len*(T.get e).size:=X28 _ (by omega);rw[X29] at ab;have:i*(T.get e).size+j<cells.size:=by omega
    simp[this]
   have ae:i<vs.toList.length:=by omega
   have bf:i<F.length:=by omega
   obtain⟨_,q⟩:=(a7 i J ae).cells;obtain⟨u,q1,q2,q3⟩:=q j V;rw[U i J] at V;have ak:=a8 i j bf V;have bg:F[i]=vs.toList[i].2:=by simp[F]
   rw[bg,q1] at ak;have:cells.getD (i*(T.get e).size+j) Xck=u:=by simp[ak]
   show zf _ _ _ (cells.getD (i*(T.get e).size+j) Xck);rw[this]
   exact q3.mono be.k)
  refine⟨S1,_,by rw[AQ];exact m2,by rw[AQ];exact k1.trans k2,?_,?_⟩
  ·refine .own self len _ len len (some ⟨w.heap.size,0,none⟩) rfl rfl (λe2 bn bo f2 M=>?_) (λcs M=>?_)
   ·rw[AQ] at M;simp only[Af,gS,X21,OB.row.injEq] at M;obtain⟨rfl,rfl,rfl,rfl⟩:=M;exact⟨by omega,λ_=>.inr ⟨_,_,gS _ _ _,rfl⟩⟩
   rw[AQ] at M;simp[Af] at M
  intro r hr;simp only[AV.refs,X11] at hr;subst hr;rw[AQ];simp[Af]
 exact h.elim
def hZ {T:TT}{e:Nat}(h:T6 T e=true):(T.get e).kind.Cy=some true:=by
 unfold T6 at h;split at h
 ·assumption
 simp at h
def Rh {obl:O (C OB)}(hT:xD P T)(m:Mem E w S φ (λr=>obl.getD r none)){t len self:Nat}{H:O AV}{vs:Array (Nat×A)}{K:AV->W->Prop} (hp:KX S w φ (λr=>obl.getD r none) [(0,.agg H)] vs.toList) (h:MN T t len self H obl K) : ∃V wr u w',K V wr/\(∀r o,(r,o)∈wr->r<obl.length)/\(Xdu t len vs).run P w=.ok u w'/\zP E w S φ (λr=>obl.getD r none) V wr u w':=by
 unfold MN at h;split at h
 ·rename_i e hk;rw[En,AI] at h;simp only[X24] at h;obtain⟨J,⟨⟨⟨⟨c1,c2⟩,c3⟩,c4⟩,c5⟩,hK⟩:=h;have Y:len=1:=X27 c1;subst Y;have aa:=hZ c2;have zx:(T.get e).size=H.length:=X27 c3;have Z:0<(T.get e).size:=X26 c4;have an:(T.get e).size<=65536:=X26 c5;obtain⟨ab,ae⟩:=CQ J;have af:=hT.of (t:=e) (by rw[aa];simp);obtain⟨ie,z,ag,M,ao,hz,ap,_⟩:=af.Dg;obtain⟨u,ah,hu,a6⟩ :∃u,vs=#[(0,u)]/\kI S w φ (λr=>obl.getD r none) (.agg H) u/\oA (λr=>obl.getD r none) (.agg H):=by
   generalize ai:vs.toList=l at hp;cases hp with
   | @cons _ q _ l' h1 h2=>
    cases h2 with
    | nil=>obtain⟨q1,q2⟩:=q;refine⟨q2,?_,h1.2.1,h1.2.2⟩;have:q1=0:=h1.1.symm;subst this;exact Array.toList_inj.1 ai
  subst ah;cases hu with|agg _ us f hs hf hn hr=>
  obtain⟨r,g1,g2,g3⟩:=Great.fill_dense Z [Value.agg us] 0 ((Xcv (1*(T.get e).size)).map (z.cells[· % z.cells.size]!)) (by intro v hv;rw[X11.1 hv];simp only[Xe2];omega) (by simp);have a7:(Xdu t 1 #[(0,Value.agg us)]).run P w=.ok (.slice (some ⟨w.heap.size,0,none⟩) 1 1) (w.alloc (.cells r e)):=by
   have Q:Instr.fill (λi=>some (i*ie.size,ie.size)) ((Xcv (1*ie.size)).map (z.cells[· % z.cells.size]!)) #[(0,Value.agg us)].toList=some r:=by rw[M];exact g1
   exact run_buildSlice w t e 1 _ r ie z (Av hT hk) ag hz (by rw[M];omega) (by rw[M];omega) Q
  have aj:r.size=H.length:=by rw[g2];simp;omega
  have ak :∀j,j<H.length->r[j]?=some (f j):=by intro j hj;rw[g3,Xa2 ⟨by omega,by simp;omega⟩];have e1:j/(T.get e).size=0:=Xee (by omega);have e2:j%(T.get e).size=j:=Xbf (by omega);rw[e1,e2];simpa[Xe2] using hf j hj
  obtain⟨m2,k2⟩:=m.alloc self (1,0) (.box H) r e ab (λU F=>a6 U (by simpa[OB.refs,AV.refs] using F)) (λal=>by
   refine⟨w.heap.size,(1,0),r,e,f,gS _ _ _,heap_alloc_new w _,aj,λo ho=>absurd (m.bS _ _ ho) (Xep _),ak,λj hj=>⟨hn j hj,?_⟩⟩
   exact al.Ke (λU F=>a6 U (by simpa[AV.refs] using AV.z8 H j hj U F)) (hr j hj))
  refine⟨_,_,_,_,hK,λU o hm=>?_,a7,S,_,m2,k2,?_,?_⟩
  ·simp only[X11,X23] at hm;rw[hm.1];exact ae
  ·refine .own self 1 _ 1 1 (some ⟨w.heap.size,0,none⟩) rfl rfl (λe2 aq ar f2 a8=>?_) (λau a8=>⟨rfl,_,_,gS _ _ _,rfl⟩);simp[Af] at a8
  intro U F;simp only[AV.refs,X11] at F;subst F;simp[Af]
 exact h.elim
def Qb {obl:O (C OB)}(hT:xD P T)(m:Mem E w S φ (λr=>obl.getD r none)){t len self:Nat}{H:O AV}{vs:Array (Nat×A)}{K:AV->W->Prop} (hp:KX S w φ (λr=>obl.getD r none) [(0,.agg H)] vs.toList) (h:KC T t len self H obl K) : ∃aa wr u w',K aa wr/\(∀r o,(r,o)∈wr->r<obl.length)/\(Xdu t len vs).run P w=.ok u w'/\zP E w S φ (λr=>obl.getD r none) aa wr u w':=by
 unfold KC at h;split at h
 ·rename_i e hk;rw[En,AI] at h;simp only[X24] at h;obtain⟨Z,⟨⟨⟨⟨c1,c2⟩,c3⟩,c4⟩,c5⟩,jq,q,n,Q,h⟩:=h;have ab:len=1:=X27 c1;subst ab;have zx:(T.get e).size=H.length:=(X27 c2).symm;have V:0<(T.get e).size:=X26 c3;have bb:(T.get e).size<=65536:=X26 c4;obtain⟨ak,al⟩:=CQ Z;have an:=hT.of (t:=e) (Ar c5);obtain⟨ie,z,ao,a6,bc,hz,bd,_⟩:=an.Dg;obtain⟨u,ap,hu,ae⟩ :∃u,vs=#[(0,u)]/\kI S w φ (λr=>obl.getD r none) (.agg H) u/\oA (λr=>obl.getD r none) (.agg H):=by
   generalize aq:vs.toList=l at hp;cases hp with
   | @cons _ q _ l' h1 h2=>
    cases h2 with
    | nil=>obtain⟨q1,q2⟩:=q;refine⟨q2,?_,h1.2.1,h1.2.2⟩;have:q1=0:=h1.1.symm;subst this;exact Array.toList_inj.1 aq
  subst ap;obtain⟨d,wr,S1,hK,m1,k1,hd,ar,au⟩:=Di m (z7.refl _) hu h;rw[AI] at hK;obtain⟨be,hK⟩:=hK;cases hu with|agg _ us f hs hf hn hr=>
  obtain⟨r,g1,g2,g3⟩:=Great.fill_dense V [Value.agg us] 0 ((Xcv (1*(T.get e).size)).map (z.cells[· % z.cells.size]!)) (by intro v hv;rw[X11.1 hv];simp only[Xe2];omega) (by simp);have af:(Xdu t 1 #[(0,Value.agg us)]).run P w=.ok (.slice (some ⟨w.heap.size,0,none⟩) 1 1) (w.alloc (.cells r e)):=by
   have a7:Instr.fill (λi=>some (i*ie.size,ie.size)) ((Xcv (1*ie.size)).map (z.cells[· % z.cells.size]!)) #[(0,Value.agg us)].toList=some r:=by rw[a6];exact g1
   exact run_buildSlice w t e 1 _ r ie z (Av hT hk) ao hz (by rw[a6];omega) (by rw[a6];omega) a7
  have bf:r.size=H.length:=by rw[g2];simp;omega
  have ax :∀j,j<H.length->r[j]?=some (f j):=by intro j M;rw[g3,Xa2 ⟨by omega,by simp;omega⟩];have e1:j/(T.get e).size=0:=Xee (by omega);have e2:j%(T.get e).size=j:=Xbf (by omega);rw[e1,e2];simpa[Xe2] using hf j M
  obtain⟨ay,az⟩:=hd.cells;have ag:d.cells.length=(T.get e).size:=by rw[<- ay];simp only[Xe2];omega
  have J :∀j (M:j<d.cells.length),d.cells[j].isAgg=false/\zf S1 w d.cells[j] (f j):=by intro j M;obtain⟨u,q1,q2,q3⟩:=az j M;have:us[j]?=some (f j):=hf j (by omega);have q1:us[j]?=some u:=q1;rw[this] at q1;exact⟨q2,X22 q1▸q3⟩
  have a8:jq<H.length:=(X13.1 Q).1
  have ah:Af (λr=>obl.getD r none) wr q≠none:=k1.c q (ae q (by
   have:=AV.z8 H jq a8 q (by rw[(X13.1 Q).2];simp[AV.refs])
   simpa[AV.refs] using this))
  have ba:kI S1 w φ (Af (λr=>obl.getD r none) wr) (.own q n) (f jq):=by
   have:=hr jq a8;rw[(X13.1 Q).2] at this
   exact k1.Ke (λr' U=>ae r' (by
    have:=AV.z8 H jq a8 r' (by rw[(X13.1 Q).2];exact U)
    simpa[AV.refs] using this)) this
  obtain⟨m2,k2⟩:=m1.alloc self (1,0) (.row e (T.get e).size [d] (.lk 0 jq q n)) r e (ar.none ak) (λr' U=>by
   simp only[OB.refs,FZ.Kb,X11] at U;rw[U];exact ah) (λai=>by
   refine⟨V,λi Y=>?_,λi Y j M=>?_,.inr ⟨w.heap.size,(1,0),r,λ_ j=>f j,gS _ _ _,heap_alloc_new w _,Xak _,by simp only[Xc7];omega,by simp only;omega,λi j Y M=>?_,λi Y j M=>?_,λo _ ho=>absurd (m1.bS _ _ ho) (Xep _),λi j q' n' hq Y M=>?_⟩⟩
   ·have:i=0:=by simpa using Y
    subst this;exact ag
   ·have:i=0:=by simpa using Y
    subst this;exact (J j M).1
   ·have:i=0:=by simpa using Y
    subst this;simpa using ax j (by omega)
   ·have:i=0:=by simpa using Y
    subst this;exact (J j M).2.mono ai.k
   simp only[FZ.lk.injEq] at hq;obtain⟨rfl,rfl,rfl,rfl⟩:=hq
   exact ai.Ke (λq' aj=>by simp only[AV.refs,X11] at aj;rw[aj];exact ah) ba)
  refine⟨_,_,_,_,hK,λr' o hm=>?_,af,S1,_,by rw[AQ];exact m2,by rw[AQ];exact k1.trans k2,?_,?_⟩
  ·rcases X20.1 hm with hm|hm
   ·obtain⟨e',bg,bh,f',p1,_⟩:=au r' o hm;exact Cb obl r' _ p1
   simp only[X11,X23] at hm;rw[hm.1];exact al
  ·refine .own self 1 _ 1 1 (some ⟨w.heap.size,0,none⟩) rfl rfl (λe2 bi bj f2 F=>?_) (λH F=>?_)
   ·rw[AQ] at F;simp only[Af,gS,X21,OB.row.injEq] at F;obtain⟨rfl,rfl,rfl,rfl⟩:=F;exact⟨Xak _,λ_=>.inr ⟨_,_,gS _ _ _,rfl⟩⟩
   rw[AQ] at F;simp[Af] at F
  intro r hr;simp only[AV.refs,X11] at hr;subst hr;rw[AQ];simp[Af]
 exact h.elim
def Oi {obl:O (C OB)}(H:xD P T)(m:Mem E w S φ (λr=>obl.getD r none)){t len self:Nat}{M:O (Nat×AV)}{vs:Array (Nat×A)}{K:AV->W->Prop} (J:KX S w φ (λr=>obl.getD r none) M vs.toList) (h:JU T t len self M obl K) : ∃F wr u w',K F wr/\(∀r o,(r,o)∈wr->r<obl.length)/\(Xdu t len vs).run P w=.ok u w'/\zP E w S φ (λr=>obl.getD r none) F wr u w':=by
 unfold JU at h;split at h
 ·rcases h with h|h
  ·exact Kw H m J h
  rcases h with h|h
  ·exact Rh H m J h
  exact Qb H m J h
 exact Kw H m J h
end
end Go.AX
end
