/-
  Texts of one proof, packed.
-/
import Derived.Test.YtppcmaidcgimpaaGreatDoorS4
set_option linter.all false
set_option maxRecDepth 100000
set_option maxHeartbeats 4000000
open List renaming length_map→X6,length_append→X10,mem_singleton→X13,getElem?_eq_getElem→X14,getElem?_eq_some_iff→X15,length_drop→X16,length_take→X17,length_replicate→X19,length_set→X20,mem_append→X22
open Option.some renaming injEq→X23,inj→X24
open Prod.mk renaming injEq→X25
open Bool renaming and_eq_true→X26
open Nat renaming le_of_ble_eq_true→X28,eq_of_beq_eq_true→X29,mul_le_mul_right→X30,add_mul→X31
open Option renaming none→Xa1
open Go renaming run_underlying→Wo,maxLen→Xb6,undef→Xbn,heap_alloc_new→Xcq,typeInfo→Xde
open Nat renaming beq→Xa0,blt→Xbv
open Go.Instr renaming buildSlice→Xcz
open Array renaming range→Xc4
open Go.Value renaming cells→Xdj
section
namespace Go.AX
section
variable {P:Program} {T:TT} {E:Env} {w:B} {S:Sc} {φ:Nat->O (Nat×Rp)} {ob:Nat->O OB}
def fQ (cells:Array A)(off:Nat)(v:A)(h:off+v.cells.size<=cells.size) : v.cells.zipIdx.foldl (λH (c,j)=>H.setIfInBounds (off+j) c) cells=(BZ cells.toList off v.cells.toList).toArray:=by
 have hg:=Great.foldl_set off v.cells.toList 0 cells;have e:v.cells.zipIdx.foldl (λH (c,j)=>H.setIfInBounds (off+j) c) cells=(v.cells.toList.zipIdx 0).foldl (λH (x:A×Nat)=>H.setIfInBounds (off+x.2) x.1) cells:=by rw[<- Array.foldl_toList,Array.toList_zipIdx]
 rw[e];apply Array.ext_getElem?;intro k;rw[hg.2 k,Xcc];have J:=EN cells.toList off v.cells.toList (by simpa using h) k;simp only[Xaf,Xct,Array.getElem?_toList] at J⊢;rw[J];by_cases F:off<=k/\k<off+v.cells.size
 ·rw[Xl F,Xl ⟨F.1,F.2,by omega⟩]
 rw[Xk F,Xk (λh=>F ⟨h.1,h.2.1⟩)]
def sZ (S:Sc)(w:B)(φ:Nat->O (Nat×Rp))(ob:Nat->O OB)(F:I AV)(H:Array A):Prop:=
 H.size=F.length/\∀i (J:i<F.length),∃u,H[i]?=some u/\F[i].one=true/\gM S w φ ob F[i] u
def sZ.over {J xs:I AV}{K M:Array A}(h:sZ S w φ ob J K)(k:sZ S w φ ob xs M){off:Nat}(F:off+xs.length<=J.length) : sZ S w φ ob (BZ J off xs) (BZ K.toList off M.toList).toArray:=by
 have h1:off+M.toList.length<=K.toList.length:=by simp[h.1,k.1];omega
 refine⟨by rw[Xb9,Bg _ _ _ h1,Bg _ _ _ F];simp[h.1],λi Q=>?_⟩;have e1:=EN J off xs F i;have e2:=EN K.toList off M.toList h1 i;rw[Bg _ _ _ F] at Q;have U:i<(BZ J off xs).length:=by rw[Bg _ _ _ F];exact Q
 rw[X14 U] at e1;simp only[Xaf,k.1,Array.getElem?_toList] at e2;by_cases H:off<=i/\i<off+xs.length
 ·rw[Xl H,X14 (by omega)] at e1;rw[Xl H] at e2;obtain⟨u,V,Y,Z⟩:=k.2 (i-off) (by omega);refine⟨u,by rw[Xct,e2];exact V,?_,?_⟩
  ·rw[X24 e1];exact Y
  rw[X24 e1];exact Z
 rw[Xk H,X14 Q] at e1;rw[Xk H] at e2;obtain⟨u,V,Y,Z⟩:=h.2 i Q;refine⟨u,by rw[Xct,e2];exact V,?_,?_⟩
 ·rw[X24 e1];exact Y
 rw[X24 e1];exact Z
def W1 {H xs:I AV}{off:Nat}(h :∀c∈H,gN ob c)(k :∀c∈xs,gN ob c) :∀c∈BZ H off xs,gN ob c:=by
 intro c F;simp only[BZ,X22] at F;rcases F with (F|F)|F
 ·exact h c (List.mem_of_mem_take F)
 ·exact k c F
 exact h c (List.mem_of_mem_drop F)
inductive r5 {α β:Type}(R:α->β->Prop):List α->List β->Prop
 | nil:r5 R [] []
 | cons {a:α} {b:β} {l:List α} {k:List β} (h:R a b) (hs:r5 R l k):r5 R (a::l) (b::k)
def r5.imp {α F:Type}{R H:α->F->Prop}{l:I α}{k:I F}(h:r5 R l k)(f :∀a b,R a b->H a b):r5 H l k:=by
 induction h with
 | nil=>exact .nil
 | cons h _ J=>exact .cons (f _ _ h) J
def Jw (S:Sc)(w:B)(φ:Nat->O (Nat×Rp))(ob:Nat->O OB)(F:I (Nat×AV))(H:I (Nat×A)):Prop:=
 r5 (λp q=>p.1=q.1/\gM S w φ ob p.2 q.2/\gN ob p.2) F H
def NA {H:Nat->O (Nat×Nat)} :∀{ps:I (Nat×AV)} {vs:I (Nat×A)} (_:Jw S w φ ob ps vs) {V:I AV} {cells:Array A} {K:I AV->Prop} (_:sZ S w φ ob V cells) (_ :∀c∈V,gN ob c) (_:KP.go H ps V K),∃J F,K J/\Instr.fill H cells vs=some F/\sZ S w φ ob J F/\∀c∈J,gN ob c
 | [],[],_,V,cells,K,hr,hc,h=>⟨V,cells,h,rfl,hr,hc⟩
 | (i,v)::ps,(j,u)::vs,hp,V,cells,K,hr,hc,h=>by
  cases hp with|cons h1 h2=>
  obtain⟨Y,hv,Z⟩:=h1;simp only at Y hv Z;subst Y;simp only[KP.go] at h;cases U:H i with
  | none=>simp[U] at h
  | some q=>
   obtain⟨off,size⟩:=q;simp only[U,GZ,AD,Hm] at h;obtain⟨l,hl,qE,a1,h⟩:=h;have M:l.length=size:=X29 qE;obtain⟨k1,k2⟩:=PS hv hl;have a6:sZ S w φ ob l u.cells:=⟨k1,k2⟩;have Q:off+u.cells.size<=cells.size:=by rw[k1,hr.1];exact a1
   obtain⟨J,F,g1,g2,g3,g4⟩:=NA h2 (hr.over a6 a1) (W1 (off:=off) hc (J0 Z hl)) h;refine⟨J,F,g1,?_,g3,g4⟩;rw[Instr.fill];simp only[U];rw[Xk (by simp[k1,M];rw[k1,M] at Q;omega),fQ _ _ _ Q];exact g2
 | [],_::_,hp,_,_,_,_,_,_=>by cases hp
 | _::_,[],hp,_,_,_,_,_,_=>by cases hp
def PH {t:Nat}(F:py P T)(H:(T.get t).kind.re≠none){i:TypeInfo}{z:A}(J:P.info? t=some i)(K:i.zero=some z):sZ S w φ ob ((T.get t).zero.map .d) z.cells/\∀c∈(T.get t).zero.map AV.d,gN ob c:=by obtain⟨M,_,Q⟩:=Yb (F.of H) J K S w φ ob;refine⟨⟨M,Q⟩,λc U=>?_⟩;obtain⟨x,_,rfl⟩:=Xaz.1 U;exact A5 ob x
def VC (Y:py P T){t:Nat}{ps:I (Nat×AV)}{U:Array (Nat×A)}{K:AV->Prop}(hp:Jw S w φ ob ps U.toList)(h:KP T t ps K) : ∃out u,K out/\(Instr.build t U).run P w=.ok u w/\gM S w φ ob out u/\gN ob out:=by
 unfold KP at h;split at h
 ·rename_i fs hk;have J:(T.get t).kind.re≠none:=by rw[hk];simp[TK.re]
  have V:=Y.of J;obtain⟨i,z,hi,h1,h2,hz,h4,h5,_⟩:=V.rz;obtain⟨hr,hc⟩:=PH (S:=S) (w:=w) (φ:=φ) (ob:=ob) Y J hi hz;obtain⟨a7,H,Z,g2,g3,g4⟩:=NA hp hr hc h;rw[GT] at Z;refine⟨_,.agg H,Z,?_,OR g3.1 g3.2,If g4⟩;refine run_build w t U H ?_;have M:=V.kind;rw[hk] at M;obtain⟨_,_,F,hu,hF,_⟩:=M;have Q:F.toList.mapM (λf=>(P.info? f.type).map λi=>(f.offset,i.size))=some (fs.map λx=>(x.1,x.2.1)):=by
   clear g2 Z h hu hk;generalize F.toList=F' at hF;induction F' generalizing fs with
   | nil=>cases fs with
    | nil=>rfl
    | cons=>simp at hF
   | cons f F' ih=>
    cases fs with
    | nil=>simp at hF
    | cons x fs=>
     simp only[Xb5,Xdb,X25] at hF;obtain⟨⟨a1,a2,a3⟩,a4⟩:=hF;have:=ih fs a4;cases hq:P.info? f.type with
     | none=>simp[hq] at a2
     | some ag=>simp[hq] at a2;simp[List.mapM_cons,hq,this,a1,a2]
  unfold Program.built;simp only[hi,hu,hz,Q]
  have a8:(λx=>(fs.map λx=>(x.1,x.2.1)).toArray[x]?)=(λ(i:Nat)=>match (fs[i]?:O (Nat×Nat×Nat)) with
   | some (o,s,_)=>some (o,s)
   | none=>none):=by
   funext k;simp only[Xct,Xd8];cases fs[k]?<;>rfl
  rw[a8];exact g2
 ·rename_i n e hk;have J:(T.get t).kind.re≠none:=by rw[hk];simp[TK.re]
  have V:=Y.of J;rw[AD] at h;obtain⟨aa,h⟩:=h;have ab:=Y.of (BC aa);obtain⟨i,z,hi,h1,h2,hz,h4,h5,_⟩:=V.rz;obtain⟨ie,ze,ae,a6,_⟩:=ab.rz;obtain⟨hr,hc⟩:=PH (S:=S) (w:=w) (φ:=φ) (ob:=ob) Y J hi hz;obtain⟨a7,H,Z,g2,g3,g4⟩:=NA hp hr hc h;rw[GT] at Z;refine⟨_,.agg H,Z,?_,OR g3.1 g3.2,If g4⟩;refine run_build w t U H ?_;unfold Program.built;simp only[hi,OS Y hk,hz,ae]
  have key :∀(U:I (Nat×A)) (c c':Array A),Instr.fill (λi=>match Xbv i n with
    | true=>some (i*(T.get e).size,(T.get e).size)
    | false=>none) c U=some c'->Instr.fill (λi=>some (i*ie.size,ie.size)) c U=some c':=by
   intro U;induction U with
   | nil=>intro c c' h;exact h
   | cons v U ih=>
    intro c c' h;obtain⟨j,v⟩:=v;rw[Instr.fill] at h⊢;cases hb:Xbv j n with
    | false=>simp[hb] at h
    | true=>
     simp only[hb] at h;rw[a6];split at h
     ·simp at h
     rename_i af;simp only[];rw[Xk af];have:=ih _ _ h;rw[a6] at this;exact this
  exact key _ _ _ g2
 exact h.elim
def ZG (f:Nat->O OB)(r:Nat)(x y:O OB):qn (qn f r x) r y=qn f r y:=by funext i;by_cases h:i=r<;>simp[qn,h]
def Ab (ob:Nat->O OB)(a b:W):Ak ob (a++b)=Ak (Ak ob a) b:=by
 induction a generalizing ob with
 | nil=>rfl
 | cons x a F=>obtain⟨r,o⟩:=x;simp[Ak,F]
def P5 {obl:I (O OB)}{sz:Nat} :∀{U:I (Nat×AV)} {H:I (Nat×A)} {i:Nat} {S:Sc} {ob:Nat->O OB} {K:I D->W->Prop} (_:Mem E w S φ ob) (_:qe (λr=>obl.getD r none) ob) (_:r5 (λp q=>p.1=q.1/\gM S w φ ob p.2 q.2/\gN (λr=>obl.getD r none) p.2) U H) (_:EK.elems obl sz i U K), ∃es wr S',K es wr/\Mem E w S' φ (Ak ob wr)/\Kept w S φ ob w S' φ (Ak ob wr)/\qe (λr=>obl.getD r none) (Ak ob wr)/\Va obl wr/\es.length=H.length/\ H=((H.map (·.2)).zipIdx i).map (λx=>(x.2,x.1))/\(∀j (M:j<es.length),es[j].cells.length=sz)/\∀j (M:j<es.length) (ae:j<H.length),qf S' w es[j] H[j].2
 | [],[],i,S,ob,K,m,V,_,h=>⟨[],[],S,h,m,.refl w S φ ob,V,λ_ _ J=>by simp at J,rfl,rfl,λj M=>by simp at M,λj M=>by simp at M⟩
 | (j,v)::U,(j',u)::H,i,S,ob,K,m,V,hp,h=>by
  cases hp with|cons h1 h2=>
  obtain⟨Q,hv,Z⟩:=h1;simp only at Q hv Z;subst Q;simp only[EK.elems] at h;cases hb:Xa0 i j with
  | false=>simp[hb] at h
  | true=>
   have a1:i=j:=X29 hb;subst a1;simp only[hb] at h;obtain⟨x,wr,S1,Y,m1,k1,hd,a6,a7⟩:=EM m V hv h;rw[AD] at Y;obtain⟨qE,Y⟩:=Y;have a8:r5 (λ(p:Nat×AV) (q:Nat×A)=>p.1=q.1/\gM S1 w φ (Ak ob wr) p.2 q.2/\gN (λr=>obl.getD r none) p.2) U H:=by
    refine h2.imp λp q F=>⟨F.1,k1.sF (λr hr=>?_) F.2.1,F.2.2⟩;have h3:=F.2.2 r hr;rcases V r with e1|⟨e,af,es,f,e1,e2⟩
    ·rw[e1];exact h3
    rw[e2];simp
   obtain⟨es,aa,S2,g1,g2,g3,g4,g5,g6,g7,g8,g9⟩:=P5 m1 a6 a8 Y;refine⟨x::es,wr++aa,S2,g1,by rw[Ab];exact g2,by rw[Ab];exact k1.trans g3,by rw[Ab];exact g4,λr o J=>?_,by simp[g6],?_,λk hk=>?_,λk hk ab=>?_⟩
   ·rcases X22.1 J with J|J
    ·exact a7 r o J
    exact g5 r o J
   ·simp only[Xb5,List.zipIdx_cons];rw[<- g7]
   ·cases k with
    | zero=>exact X29 qE
    | succ k=>exact g8 k (by simpa using hk)
   cases k with
   | zero=>exact hd.mono g3.k
   | succ k=>exact g9 k (by simpa using hk) (by simpa using ab)
 | [],_::_,_,_,_,_,_,_,hp,_=>by cases hp
 | _::_,[],_,_,_,_,_,_,hp,_=>by cases hp
def DD {obl:I (O OB)}{r:Nat}(h:obl[r]?=some none):obl.getD r none=none/\r<obl.length:=by obtain⟨F,H⟩:=X15.1 h;exact⟨by simp[h],F⟩
def qe.none {ob ob':Nat->O OB}(h:qe ob ob'){r:Nat}(F:ob r=Xa1):ob' r=Xa1:=by
 rcases h r with e|⟨e,sz,H,f,e1,_⟩
 ·rw[e,F]
 rw[F] at e1;simp at e1
def ME {t e:Nat}(H:P.underlying t=some (.slice e)){J:TypeInfo}(F:P.info? e=some J) : (Xcz t 0 #[]).run P w=.ok (.slice (some ⟨w.heap.size,0,none⟩) 0 0) (w.alloc (.cells #[] e)):=by
 have K:Xc4 0=#[]:=by simp
 simp[Xcz,Wo H,sizeOf,Xde,F,Instr.fill,newRow,K]
def J7 {obl:I (O OB)}(hT:py P T)(m:Mem E w S φ (λr=>obl.getD r none)){t len self:Nat}{ps:I (Nat×AV)}{Q:Array (Nat×A)}{K:AV->W->Prop} (hp:Jw S w φ (λr=>obl.getD r none) ps Q.toList) (h:EK T t len self ps obl K) : ∃out wr u w',K out wr/\(∀r o,(r,o)∈wr->r<obl.length)/\(Xcz t len Q).run P w=.ok u w'/\qH E w S φ (λr=>obl.getD r none) out wr u w':=by
 unfold EK at h;split at h
 ·rename_i e hk;rw[FC,AD,AD] at h;obtain⟨a1,U,ak,h⟩:=h;rw[X26] at U;obtain⟨al,an⟩:=U;have H:0<(T.get e).size:=X28 al;have bf:len*(T.get e).size<=16777216:=X28 an;obtain⟨ao,ap⟩:=DD a1;have aq:=hT.of (BC ak);obtain⟨ie,z,af,a6,bg,hz,bh,_⟩:=aq.rz;obtain⟨es,wr,S1,hK,m1,k1,ar,au,bi,ax,V,a7⟩:=P5 m (qe.refl _) hp h;rw[AD] at hK;obtain⟨ag,hK⟩:=hK;have ay:es.length=len:=X29 ag;let F:=Q.toList.map (·.2);have ah:F.length=len:=by simp only[F,X6];omega
  have az :∀v∈F,v.cells.size=(T.get e).size:=by
   intro v Z;obtain⟨j,Y,rfl⟩:=Wr Z;have b0:j<Q.toList.length:=by simpa[F] using Y
   have:=(a7 j (by omega) b0).cells.1;rw[V j (by omega)] at this;simpa[F] using this
  have ba :∀r o,(r,o)∈wr++[(self,OB.row e (T.get e).size es .no)]->r<obl.length:=by
   intro r o Z;rcases X22.1 Z with Z|Z
   ·obtain⟨e',bj,bk,f',e1,_⟩:=au r o Z;exact EC obl r _ e1
   simp only[X13,X25] at Z;rw[Z.1];exact ap
  obtain⟨cells,ai,bb,a8⟩ :∃cells:Array A,(Xcz t len Q).run P w=.ok (.slice (some ⟨w.heap.size,0,none⟩) len len) (w.alloc (.cells cells e))/\cells.size=len*(T.get e).size/\
    ∀i j (J:i<F.length) (_:j<(T.get e).size),cells[i*(T.get e).size+j]?=F[i].cells[j]?:=by
   by_cases h0:len=0
   ·subst h0;have:Q=#[]:=by
     have:Q.toList.length=0:=by omega
     exact Array.toList_eq_nil_iff.1 (Xa7 this)
    subst this;exact⟨#[],ME (BU hT hk) af,by simp,λi j J=>by rw[ah] at J;exact absurd J (Nat.not_lt_zero _)⟩
   obtain⟨r,g1,g2,g3⟩:=Great.fill_dense H F 0 ((Xc4 (len*(T.get e).size)).map (z.cells[· % z.cells.size]!)) az (by simp[ah]);refine⟨r,?_,by simpa using g2,λi j J Y=>?_⟩
   ·have aa:Instr.fill (λi=>some (i*ie.size,ie.size)) ((Xc4 (len*ie.size)).map (z.cells[· % z.cells.size]!)) Q.toList=some r:=by rw[a6,ax];exact g1
    exact run_buildSlice w t e len Q r ie z (BU hT hk) af hz (by rw[a6];omega) (by rw[a6];exact Nat.mul_ne_zero h0 (by omega)) aa
   rw[g3];have ab:(i+1)*(T.get e).size<=F.length*(T.get e).size:=X30 _ J;rw[X31] at ab;rw[Xl ⟨by omega,by rw[Xaa];omega⟩];have e1:(i*(T.get e).size+j)/(T.get e).size=i:=by rw[Xbe,Nat.mul_add_div H,Nat.div_eq_of_lt Y,Xcc]
   have e2:(i*(T.get e).size+j)%(T.get e).size=j:=by rw[Xbe,Nat.mul_add_mod,Xbd Y]
   rw[e1,e2,Nat.sub_zero,X14 J];rfl
  refine⟨_,_,_,_,hK,ba,ai,?_⟩
  obtain⟨m2,k2⟩:=m1.alloc self (len,0) (.row e (T.get e).size es .no) cells e (ar.none ao) (λr hr=>by simp[OB.refs] at hr) (λbc=>by
   refine⟨H,λi J=>V i J,λi J j Y=>?_,.inr ⟨w.heap.size,(len,0),cells,λi j=>cells.getD (i*(T.get e).size+j) Xbn,gL _ _ _,Xcq w _,by simp only;omega,?_,Nat.le_of_eq ((Xaa _).trans bb.symm),λi j J Y=>?_,λi J j Y=>?_,λo _ ho=>absurd (m1.bS _ _ ho) (Nat.lt_irrefl _),λ_ _ _ _ h=>nomatch h⟩⟩
   ·have ae:i<Q.toList.length:=by omega
    obtain⟨_,q⟩:=(a7 i J ae).cells;obtain⟨u,q1,q2,q3⟩:=q j Y;exact q2
   ·have:len<=len*(T.get e).size:=Nat.le_mul_of_pos_right _ H;simp only[Xb6];omega
   ·have ab:(i+1)*(T.get e).size<=len*(T.get e).size:=X30 _ (by omega);rw[X31] at ab;have:i*(T.get e).size+j<cells.size:=by omega
    simp[this]
   have ae:i<Q.toList.length:=by omega
   have bd:i<F.length:=by omega
   obtain⟨_,q⟩:=(a7 i J ae).cells;obtain⟨u,q1,q2,q3⟩:=q j Y;rw[V i J] at Y;have aj:=a8 i j bd Y;have be:F[i]=Q.toList[i].2:=by simp[F]
   rw[be,q1] at aj;have:cells.getD (i*(T.get e).size+j) Xbn=u:=by simp[aj]
   show qf _ _ _ (cells.getD (i*(T.get e).size+j) Xbn);rw[this]
   exact q3.mono bc.k)
  refine⟨S1,_,by rw[Ab];exact m2,by rw[Ab];exact k1.trans k2,?_,?_⟩
  ·refine .own self len _ len len (some ⟨w.heap.size,0,none⟩) rfl rfl (λe2 bl bm f2 M=>?_) (λcs M=>?_)
   ·rw[Ab] at M;simp only[Ak,gL,X23,OB.row.injEq] at M;obtain⟨rfl,rfl,rfl,rfl⟩:=M;exact⟨by omega,λ_=>.inr ⟨_,_,gL _ _ _,rfl⟩⟩
   rw[Ab] at M;simp[Ak] at M
  intro r hr;simp only[AV.refs,X13] at hr;subst hr;rw[Ab];simp[Ak]
 exact h.elim
def ZX {T:TT}{e:Nat}(h:uh T e=true):(T.get e).kind.re=some true:=by
 unfold uh at h;split at h
 ·assumption
 simp at h
def QC {obl:I (O OB)}(hT:py P T)(m:Mem E w S φ (λr=>obl.getD r none)){t len self:Nat}{H:I AV}{vs:Array (Nat×A)}{K:AV->W->Prop} (hp:Jw S w φ (λr=>obl.getD r none) [(0,.agg H)] vs.toList) (h:Lj T t len self H obl K) : ∃out wr u w',K out wr/\(∀r o,(r,o)∈wr->r<obl.length)/\(Xcz t len vs).run P w=.ok u w'/\qH E w S φ (λr=>obl.getD r none) out wr u w':=by
 unfold Lj at h;split at h
 ·rename_i e hk;rw[FC,AD] at h;simp only[X26] at h;obtain⟨J,⟨⟨⟨⟨c1,c2⟩,c3⟩,c4⟩,c5⟩,hK⟩:=h;have V:len=1:=X29 c1;subst V;have a7:=ZX c2;have qE:(T.get e).size=H.length:=X29 c3;have Y:0<(T.get e).size:=X28 c4;have ak:(T.get e).size<=65536:=X28 c5;obtain⟨a8,aa⟩:=DD J;have ab:=hT.of (t:=e) (by rw[a7];simp);obtain⟨ie,z,ae,M,al,hz,an,_⟩:=ab.rz;obtain⟨u,af,hu,Z⟩ :∃u,vs=#[(0,u)]/\gM S w φ (λr=>obl.getD r none) (.agg H) u/\gN (λr=>obl.getD r none) (.agg H):=by
   generalize ag:vs.toList=l at hp;cases hp with
   | @cons _ q _ l' h1 h2=>
    cases h2 with
    | nil=>obtain⟨q1,q2⟩:=q;refine⟨q2,?_,h1.2.1,h1.2.2⟩;have:q1=0:=h1.1.symm;subst this;exact Array.toList_inj.1 ag
  subst af;cases hu with|agg _ us f hs hf hn hr=>
  obtain⟨r,g1,g2,g3⟩:=Great.fill_dense Y [Value.agg us] 0 ((Xc4 (1*(T.get e).size)).map (z.cells[· % z.cells.size]!)) (by intro v hv;rw[X13.1 hv];simp only[Xdj];omega) (by simp);have a1:(Xcz t 1 #[(0,Value.agg us)]).run P w=.ok (.slice (some ⟨w.heap.size,0,none⟩) 1 1) (w.alloc (.cells r e)):=by
   have Q:Instr.fill (λi=>some (i*ie.size,ie.size)) ((Xc4 (1*ie.size)).map (z.cells[· % z.cells.size]!)) #[(0,Value.agg us)].toList=some r:=by rw[M];exact g1
   exact run_buildSlice w t e 1 _ r ie z (BU hT hk) ae hz (by rw[M];omega) (by rw[M];omega) Q
  have ah:r.size=H.length:=by rw[g2];simp;omega
  have ai :∀j,j<H.length->r[j]?=some (f j):=by intro j hj;rw[g3,Xl ⟨by omega,by simp;omega⟩];have e1:j/(T.get e).size=0:=Nat.div_eq_of_lt (by omega);have e2:j%(T.get e).size=j:=Xbd (by omega);rw[e1,e2];simpa[Xdj] using hf j hj
  obtain⟨m2,k2⟩:=m.alloc self (1,0) (.box H) r e a8 (λU F=>Z U (by simpa[OB.refs,AV.refs] using F)) (λaj=>by
   refine⟨w.heap.size,(1,0),r,e,f,gL _ _ _,Xcq w _,ah,λo ho=>absurd (m.bS _ _ ho) (Nat.lt_irrefl _),ai,λj hj=>⟨hn j hj,?_⟩⟩
   exact aj.sF (λU F=>Z U (by simpa[AV.refs] using AV.qj H j hj U F)) (hr j hj))
  refine⟨_,_,_,_,hK,λU o hm=>?_,a1,S,_,m2,k2,?_,?_⟩
  ·simp only[X13,X25] at hm;rw[hm.1];exact aa
  ·refine .own self 1 _ 1 1 (some ⟨w.heap.size,0,none⟩) rfl rfl (λe2 ao ap f2 a6=>?_) (λaq a6=>⟨rfl,_,_,gL _ _ _,rfl⟩);simp[Ak] at a6
  intro U F;simp only[AV.refs,X13] at F;subst F;simp[Ak]
 exact h.elim
def PP {obl:I (O OB)}(J:py P T)(m:Mem E w S φ (λr=>obl.getD r none)){t len self:Nat}{F:I AV}{H:Array (Nat×A)}{K:AV->W->Prop}(hp:Jw S w φ (λr=>obl.getD r none) [(0,.agg F)] H.toList)(h:M1 T t len self F obl K) :∃out wr u w',K out wr/\(∀r o,(r,o)∈wr->r<obl.length)/\(Xcz t len H).run P w=.ok u w'/\qH E w S φ (λr=>obl.getD r none) out wr u w':=False.elim h
def N7 {obl:I (O OB)}(F:py P T)(m:Mem E w S φ (λr=>obl.getD r none)){t len self:Nat}{H:I (Nat×AV)}{J:Array (Nat×A)}{K:AV->W->Prop} (hp:Jw S w φ (λr=>obl.getD r none) H J.toList) (h:Ii T t len self H obl K) : ∃out wr u w',K out wr/\(∀r o,(r,o)∈wr->r<obl.length)/\(Xcz t len J).run P w=.ok u w'/\qH E w S φ (λr=>obl.getD r none) out wr u w':=by
 unfold Ii at h;split at h
 ·rcases h with h|h
  ·exact J7 F m hp h
  rcases h with h|h
  ·exact QC F m hp h
  exact PP F m hp h
 exact J7 F m hp h
end
end Go.AX
end
