/-
  Texts of one proof, packed.
-/
import Derived.Test.YtgbncopbacigiaaGreatDoorD4
set_option linter.all false
set_option maxRecDepth 100000
set_option maxHeartbeats 4000000
open List renaming length_map→X10,length_append→X11,mem_singleton→X14,getElem?_eq_getElem→X15,getElem?_eq_some_iff→X16,length_drop→X17,length_take→X18,length_replicate→X20,length_set→X21,mem_append→X23
open Option.some renaming injEq→X24,inj→X25
open Prod.mk renaming injEq→X26
open Bool renaming and_eq_true→X27
open Nat renaming le_of_ble_eq_true→X29,eq_of_beq_eq_true→X30,mul_le_mul_right→X31,add_mul→X32
open Option renaming none→Wy
open Go renaming run_underlying→Xa5,maxLen→Xbl,undef→Xc3
open Nat renaming beq→Xa6,blt→Xbr
open Go.Instr renaming buildSlice→Xcu
open Array renaming range→Xdd
open Go.Value renaming cells→Xdj
section
namespace Go.AX
section
variable {P:Program} {T:TT} {E:Env} {w:B} {S:Sc} {φ:Nat->C (Nat×Rp)} {ob:Nat->C OB}
def eQ (cells:Array A)(off:Nat)(v:A)(h:off+v.cells.size<=cells.size) : v.cells.zipIdx.foldl (λH (c,j)=>H.setIfInBounds (off+j) c) cells=(BG cells.toList off v.cells.toList).toArray:=by
 have hg:=Great.foldl_set off v.cells.toList 0 cells;have e:v.cells.zipIdx.foldl (λH (c,j)=>H.setIfInBounds (off+j) c) cells=(v.cells.toList.zipIdx 0).foldl (λH (x:A×Nat)=>H.setIfInBounds (off+x.2) x.1) cells:=by rw[<- Array.foldl_toList,Array.toList_zipIdx]
 rw[e];apply Array.ext_getElem?;intro k;rw[hg.2 k,Xch];have J:=EA cells.toList off v.cells.toList (by simpa using h) k;simp only[Xal,List.getElem?_toArray,Array.getElem?_toList] at J⊢;rw[J];by_cases F:off<=k/\k<off+v.cells.size
 ·rw[Xy F,Xy ⟨F.1,F.2,by omega⟩]
 rw[Xj F,Xj (λh=>F ⟨h.1,h.2.1⟩)]
def ux (S:Sc)(w:B)(φ:Nat->C (Nat×Rp))(ob:Nat->C OB)(F:O AV)(vs:Array A):Prop:=
 vs.size=F.length/\∀i (H:i<F.length),∃u,vs[i]?=some u/\F[i].one=true/\gM S w φ ob F[i] u
def ux.over {J xs:O AV}{vs K:Array A}(h:ux S w φ ob J vs)(k:ux S w φ ob xs K){off:Nat}(F:off+xs.length<=J.length) : ux S w φ ob (BG J off xs) (BG vs.toList off K.toList).toArray:=by
 have Z:off+K.toList.length<=vs.toList.length:=by simp[h.1,k.1];omega
 refine⟨by rw[Xbo,BN _ _ _ Z,BN _ _ _ F];simp[h.1],λi M=>?_⟩;have e1:=EA J off xs F i;have e2:=EA vs.toList off K.toList Z i;rw[BN _ _ _ F] at M;have Q:i<(BG J off xs).length:=by rw[BN _ _ _ F];exact M
 rw[X15 Q] at e1;simp only[Xal,k.1,Array.getElem?_toList] at e2;by_cases H:off<=i/\i<off+xs.length
 ·rw[Xy H,X15 (by omega)] at e1;rw[Xy H] at e2;obtain⟨u,U,V,Y⟩:=k.2 (i-off) (by omega);refine⟨u,by rw[List.getElem?_toArray,e2];exact U,?_,?_⟩
  ·rw[X25 e1];exact V
  rw[X25 e1];exact Y
 rw[Xj H,X15 M] at e1;rw[Xj H] at e2;obtain⟨u,U,V,Y⟩:=h.2 i M;refine⟨u,by rw[List.getElem?_toArray,e2];exact U,?_,?_⟩
 ·rw[X25 e1];exact V
 rw[X25 e1];exact Y
def Vp {H xs:O AV}{off:Nat}(h :∀c∈H,gO ob c)(k :∀c∈xs,gO ob c) :∀c∈BG H off xs,gO ob c:=by
 intro c F;simp only[BG,X23] at F;rcases F with (F|F)|F
 ·exact h c (Xce F)
 ·exact k c F
 exact h c (List.mem_of_mem_drop F)
inductive sA {α β:Type}(R:α->β->Prop):List α->List β->Prop
 | nil:sA R [] []
 | cons {a:α} {b:β} {l:List α} {k:List β} (h:R a b) (hs:sA R l k):sA R (a::l) (b::k)
def sA.imp {α F:Type}{R H:α->F->Prop}{l:O α}{k:O F}(h:sA R l k)(f :∀a b,R a b->H a b):sA H l k:=by
 induction h with
 | nil=>exact .nil
 | cons h _ J=>exact .cons (f _ _ h) J
def JB (S:Sc)(w:B)(φ:Nat->C (Nat×Rp))(ob:Nat->C OB)(F:O (Nat×AV))(vs:O (Nat×A)):Prop:=
 sA (λp q=>p.1=q.1/\gM S w φ ob p.2 q.2/\gO ob p.2) F vs
def LX {H:Nat->C (Nat×Nat)} :∀{ps:O (Nat×AV)} {vs:O (Nat×A)} (_:JB S w φ ob ps vs) {V:O AV} {cells:Array A} {K:O AV->Prop} (_:ux S w φ ob V cells) (_ :∀c∈V,gO ob c) (_:Jc.go H ps V K),∃J F,K J/\Instr.fill H cells vs=some F/\ux S w φ ob J F/\∀c∈J,gO ob c
 | [],[],_,V,cells,K,hr,hc,h=>⟨V,cells,h,rfl,hr,hc⟩
 | (i,v)::ps,(j,u)::vs,hp,V,cells,K,hr,hc,h=>by
  cases hp with|cons h1 h2=>
  obtain⟨Y,hv,Z⟩:=h1;simp only at Y hv Z;subst Y;simp only[Jc.go] at h;cases U:H i with
  | none=>simp[U] at h
  | some q=>
   obtain⟨off,size⟩:=q;simp only[U,GU,AH,HH] at h;obtain⟨l,hl,s7,a1,h⟩:=h;have M:l.length=size:=X30 s7;obtain⟨k1,k2⟩:=OD hv hl;have a6:ux S w φ ob l u.cells:=⟨k1,k2⟩;have Q:off+u.cells.size<=cells.size:=by rw[k1,hr.1];exact a1
   obtain⟨J,F,g1,g2,g3,g4⟩:=LX h2 (hr.over a6 a1) (Vp (off:=off) hc (JF Z hl)) h;refine⟨J,F,g1,?_,g3,g4⟩;rw[Instr.fill];simp only[U];rw[Xj (by simp[k1,M];rw[k1,M] at Q;omega),eQ _ _ _ Q];exact g2
 | [],_::_,hp,_,_,_,_,_,_=>by cases hp
 | _::_,[],hp,_,_,_,_,_,_=>by cases hp
def N5 {t:Nat}(F:rc P T)(H:(T.get t).kind.sG≠none){i:TypeInfo}{z:A}(J:P.info? t=some i)(K:i.zero=some z):ux S w φ ob ((T.get t).zero.map .d) z.cells/\∀c∈(T.get t).zero.map AV.d,gO ob c:=by obtain⟨M,_,Q⟩:=X2 (F.of H) J K S w φ ob;refine⟨⟨M,Q⟩,λc U=>?_⟩;obtain⟨x,_,rfl⟩:=Xa0.1 U;exact A1 ob x
def Ti (V:rc P T){t:Nat}{ps:O (Nat×AV)}{vs:Array (Nat×A)}{K:AV->Prop}(hp:JB S w φ ob ps vs.toList)(h:Jc T t ps K) : ∃out u,K out/\(Instr.build t vs).run P w=.ok u w/\gM S w φ ob out u/\gO ob out:=by
 unfold Jc at h;split at h
 ·rename_i fs Y;have J:(T.get t).kind.sG≠none:=by rw[Y];simp[TK.sG]
  have U:=V.of J;obtain⟨i,z,hi,h1,h2,hz,h4,h5,_⟩:=U.sV;obtain⟨hr,hc⟩:=N5 (S:=S) (w:=w) (φ:=φ) (ob:=ob) V J hi hz;obtain⟨a7,H,Z,g2,g3,g4⟩:=LX hp hr hc h;rw[GP] at Z;refine⟨_,.agg H,Z,?_,M9 g3.1 g3.2,H9 g4⟩;refine run_build w t vs H ?_;have M:=U.kind;rw[Y] at M;obtain⟨_,_,F,hu,hF,_⟩:=M;have Q:F.toList.mapM (λf=>(P.info? f.type).map λi=>(f.offset,i.size))=some (fs.map λx=>(x.1,x.2.1)):=by
   clear g2 Z h hu Y;generalize F.toList=F' at hF;induction F' generalizing fs with
   | nil=>cases fs with
    | nil=>rfl
    | cons=>simp at hF
   | cons f F' ih=>
    cases fs with
    | nil=>simp at hF
    | cons x fs=>
     simp only[Xam,Xd7,X26] at hF;obtain⟨⟨a1,a2,a3⟩,a4⟩:=hF;have:=ih fs a4;cases hq:P.info? f.type with
     | none=>simp[hq] at a2
     | some ag=>simp[hq] at a2;simp[List.mapM_cons,hq,this,a1,a2]
  unfold Program.built;simp only[hi,hu,hz,Q]
  have a8:(λx=>(fs.map λx=>(x.1,x.2.1)).toArray[x]?)=(λ(i:Nat)=>match (fs[i]?:C (Nat×Nat×Nat)) with
   | some (o,s,_)=>some (o,s)
   | none=>none):=by
   funext k;simp only[List.getElem?_toArray,Xd5];cases fs[k]?<;>rfl
  rw[a8];exact g2
 ·rename_i n e Y;have J:(T.get t).kind.sG≠none:=by rw[Y];simp[TK.sG]
  have U:=V.of J;rw[AH] at h;obtain⟨aa,h⟩:=h;have ab:=V.of (Ax aa);obtain⟨i,z,hi,h1,h2,hz,h4,h5,_⟩:=U.sV;obtain⟨ie,ze,ae,a6,_⟩:=ab.sV;obtain⟨hr,hc⟩:=N5 (S:=S) (w:=w) (φ:=φ) (ob:=ob) V J hi hz;obtain⟨a7,H,Z,g2,g3,g4⟩:=LX hp hr hc h;rw[GP] at Z;refine⟨_,.agg H,Z,?_,M9 g3.1 g3.2,H9 g4⟩;refine run_build w t vs H ?_;unfold Program.built;simp only[hi,NA V Y,hz,ae]
  have key :∀(vs:O (Nat×A)) (c c':Array A),Instr.fill (λi=>match Xbr i n with
    | true=>some (i*(T.get e).size,(T.get e).size)
    | false=>none) c vs=some c'->Instr.fill (λi=>some (i*ie.size,ie.size)) c vs=some c':=by
   intro vs;induction vs with
   | nil=>intro c c' h;exact h
   | cons v vs ih=>
    intro c c' h;obtain⟨j,v⟩:=v;rw[Instr.fill] at h⊢;cases hb:Xbr j n with
    | false=>simp[hb] at h
    | true=>
     simp only[hb] at h;rw[a6];split at h
     ·simp at h
     rename_i af;simp only[];rw[Xj af];have:=ih _ _ h;rw[a6] at this;exact this
  exact key _ _ _ g2
 exact h.elim
def Yh (f:Nat->C OB)(r:Nat)(x y:C OB):rJ (rJ f r x) r y=rJ f r y:=by funext i;by_cases h:i=r<;>simp[rJ,h]
def AU (ob:Nat->C OB)(a b:W):Ag ob (a++b)=Ag (Ag ob a) b:=by
 induction a generalizing ob with
 | nil=>rfl
 | cons x a F=>obtain⟨r,o⟩:=x;simp[Ag,F]
def Oc {obl:O (C OB)}{sz:Nat} :∀{Q:O (Nat×AV)} {vs:O (Nat×A)} {i:Nat} {S:Sc} {ob:Nat->C OB} {K:O D->W->Prop} (_:Mem E w S φ ob) (_:rl (λr=>obl.getD r none) ob) (_:sA (λp q=>p.1=q.1/\gM S w φ ob p.2 q.2/\gO (λr=>obl.getD r none) p.2) Q vs) (_:D7.elems obl sz i Q K), ∃es wr S',K es wr/\Mem E w S' φ (Ag ob wr)/\Kept w S φ ob w S' φ (Ag ob wr)/\rl (λr=>obl.getD r none) (Ag ob wr)/\UP obl wr/\es.length=vs.length/\ vs=((vs.map (·.2)).zipIdx i).map (λx=>(x.2,x.1))/\(∀j (J:j<es.length),es[j].cells.length=sz)/\∀j (J:j<es.length) (ae:j<vs.length),rH S' w es[j] vs[j].2
 | [],[],i,S,ob,K,m,U,_,h=>⟨[],[],S,h,m,.refl w S φ ob,U,λ_ _ H=>by simp at H,rfl,rfl,λj J=>by simp at J,λj J=>by simp at J⟩
 | (j,v)::Q,(j',u)::vs,i,S,ob,K,m,U,hp,h=>by
  cases hp with|cons h1 h2=>
  obtain⟨M,hv,Y⟩:=h1;simp only at M hv Y;subst M;simp only[D7.elems] at h;cases Z:Xa6 i j with
  | false=>simp[Z] at h
  | true=>
   have a1:i=j:=X30 Z;subst a1;simp only[Z] at h;obtain⟨x,wr,S1,V,m1,k1,hd,a6,a7⟩:=D8 m U hv h;rw[AH] at V;obtain⟨s7,V⟩:=V;have a8:sA (λ(p:Nat×AV) (q:Nat×A)=>p.1=q.1/\gM S1 w φ (Ag ob wr) p.2 q.2/\gO (λr=>obl.getD r none) p.2) Q vs:=by
    refine h2.imp λp q F=>⟨F.1,k1.tZ (λr hr=>?_) F.2.1,F.2.2⟩;have h3:=F.2.2 r hr;rcases U r with e1|⟨e,af,es,f,e1,e2⟩
    ·rw[e1];exact h3
    rw[e2];simp
   obtain⟨es,aa,S2,g1,g2,g3,g4,g5,g6,g7,g8,g9⟩:=Oc m1 a6 a8 V;refine⟨x::es,wr++aa,S2,g1,by rw[AU];exact g2,by rw[AU];exact k1.trans g3,by rw[AU];exact g4,λr o H=>?_,by simp[g6],?_,λk hk=>?_,λk hk ab=>?_⟩
   ·rcases X23.1 H with H|H
    ·exact a7 r o H
    exact g5 r o H
   ·simp only[Xam,List.zipIdx_cons];rw[<- g7]
   ·cases k with
    | zero=>exact X30 s7
    | succ k=>exact g8 k (by simpa using hk)
   cases k with
   | zero=>exact hd.mono g3.k
   | succ k=>exact g9 k (by simpa using hk) (by simpa using ab)
 | [],_::_,_,_,_,_,_,_,hp,_=>by cases hp
 | _::_,[],_,_,_,_,_,_,hp,_=>by cases hp
def CV {obl:O (C OB)}{r:Nat}(h:obl[r]?=some none):obl.getD r none=none/\r<obl.length:=by obtain⟨F,H⟩:=X16.1 h;exact⟨by simp[h],F⟩
def rl.none {ob ob':Nat->C OB}(h:rl ob ob'){r:Nat}(F:ob r=Wy):ob' r=Wy:=by
 rcases h r with e|⟨e,sz,H,f,e1,_⟩
 ·rw[e,F]
 rw[F] at e1;simp at e1
def Kw {t e:Nat}(H:P.underlying t=some (.slice e)){J:TypeInfo}(F:P.info? e=some J) : (Xcu t 0 #[]).run P w=.ok (.slice (some ⟨w.heap.size,0,none⟩) 0 0) (w.alloc (.cells #[] e)):=by
 have K:Xdd 0=#[]:=by simp
 simp[Xcu,Xa5 H,sizeOf,typeInfo,F,Instr.fill,newRow,K]
def JK {obl:O (C OB)}(hT:rc P T)(m:Mem E w S φ (λr=>obl.getD r none)){t len self:Nat}{ps:O (Nat×AV)}{vs:Array (Nat×A)}{K:AV->W->Prop} (hp:JB S w φ (λr=>obl.getD r none) ps vs.toList) (h:D7 T t len self ps obl K) : ∃out wr u w',K out wr/\(∀r o,(r,o)∈wr->r<obl.length)/\(Xcu t len vs).run P w=.ok u w'/\s6 E w S φ (λr=>obl.getD r none) out wr u w':=by
 unfold D7 at h;split at h
 ·rename_i e hk;rw[Eu,AH,AH] at h;obtain⟨Z,Q,aj,h⟩:=h;rw[X27] at Q;obtain⟨ak,al⟩:=Q;have H:0<(T.get e).size:=X29 ak;have be:len*(T.get e).size<=16777216:=X29 al;obtain⟨an,ao⟩:=CV Z;have ap:=hT.of (Ax aj);obtain⟨ie,z,ae,a1,bf,hz,bg,_⟩:=ap.sV;obtain⟨es,wr,S1,hK,m1,k1,aq,ar,bh,au,U,a6⟩:=Oc m (rl.refl _) hp h;rw[AH] at hK;obtain⟨af,hK⟩:=hK;have ax:es.length=len:=X30 af;let F:=vs.toList.map (·.2);have ag:F.length=len:=by simp only[F,X10];omega
  have ay :∀v∈F,v.cells.size=(T.get e).size:=by
   intro v Y;obtain⟨j,V,rfl⟩:=Wz Y;have az:j<vs.toList.length:=by simpa[F] using V
   have:=(a6 j (by omega) az).cells.1;rw[U j (by omega)] at this;simpa[F] using this
  have b0 :∀r o,(r,o)∈wr++[(self,OB.row e (T.get e).size es .no)]->r<obl.length:=by
   intro r o Y;rcases X23.1 Y with Y|Y
   ·obtain⟨e',bi,bj,f',e1,_⟩:=ar r o Y;exact Dz obl r _ e1
   simp only[X14,X26] at Y;rw[Y.1];exact ao
  obtain⟨cells,ah,ba,a7⟩ :∃cells:Array A,(Xcu t len vs).run P w=.ok (.slice (some ⟨w.heap.size,0,none⟩) len len) (w.alloc (.cells cells e))/\cells.size=len*(T.get e).size/\
    ∀i j (J:i<F.length) (_:j<(T.get e).size),cells[i*(T.get e).size+j]?=F[i].cells[j]?:=by
   by_cases h0:len=0
   ·subst h0;have:vs=#[]:=by
     have:vs.toList.length=0:=by omega
     exact Array.toList_eq_nil_iff.1 (Xab this)
    subst this;exact⟨#[],Kw (BA hT hk) ae,by simp,λi j J=>by rw[ag] at J;exact absurd J (Nat.not_lt_zero _)⟩
   obtain⟨r,g1,g2,g3⟩:=Great.fill_dense H F 0 ((Xdd (len*(T.get e).size)).map (z.cells[· % z.cells.size]!)) ay (by simp[ag]);refine⟨r,?_,by simpa using g2,λi j J V=>?_⟩
   ·have a8:Instr.fill (λi=>some (i*ie.size,ie.size)) ((Xdd (len*ie.size)).map (z.cells[· % z.cells.size]!)) vs.toList=some r:=by rw[a1,au];exact g1
    exact run_buildSlice w t e len vs r ie z (BA hT hk) ae hz (by rw[a1];omega) (by rw[a1];exact Nat.mul_ne_zero h0 (by omega)) a8
   rw[g3];have aa:(i+1)*(T.get e).size<=F.length*(T.get e).size:=X31 _ J;rw[X32] at aa;rw[Xy ⟨by omega,by rw[Xan];omega⟩];have e1:(i*(T.get e).size+j)/(T.get e).size=i:=by rw[Xc0,Nat.mul_add_div H,Nat.div_eq_of_lt V,Xch]
   have e2:(i*(T.get e).size+j)%(T.get e).size=j:=by rw[Xc0,Nat.mul_add_mod,Xbe V]
   rw[e1,e2,Nat.sub_zero,X15 J];rfl
  refine⟨_,_,_,_,hK,b0,ah,?_⟩
  obtain⟨m2,k2⟩:=m1.alloc self (len,0) (.row e (T.get e).size es .no) cells e (aq.none an) (λr hr=>by simp[OB.refs] at hr) (λbb=>by
   refine⟨H,λi J=>U i J,λi J j V=>?_,.inr ⟨w.heap.size,(len,0),cells,λi j=>cells.getD (i*(T.get e).size+j) Xc3,gL _ _ _,heap_alloc_new w _,by simp only;omega,?_,Nat.le_of_eq ((Xan _).trans ba.symm),λi j J V=>?_,λi J j V=>?_,λo _ ho=>absurd (m1.bS _ _ ho) (Nat.lt_irrefl _),λ_ _ _ _ h=>nomatch h⟩⟩
   ·have ab:i<vs.toList.length:=by omega
    obtain⟨_,q⟩:=(a6 i J ab).cells;obtain⟨u,q1,q2,q3⟩:=q j V;exact q2
   ·have:len<=len*(T.get e).size:=Nat.le_mul_of_pos_right _ H;simp only[Xbl];omega
   ·have aa:(i+1)*(T.get e).size<=len*(T.get e).size:=X31 _ (by omega);rw[X32] at aa;have:i*(T.get e).size+j<cells.size:=by omega
    simp[this]
   have ab:i<vs.toList.length:=by omega
   have bc:i<F.length:=by omega
   obtain⟨_,q⟩:=(a6 i J ab).cells;obtain⟨u,q1,q2,q3⟩:=q j V;rw[U i J] at V;have ai:=a7 i j bc V;have bd:F[i]=vs.toList[i].2:=by simp[F]
   rw[bd,q1] at ai;have:cells.getD (i*(T.get e).size+j) Xc3=u:=by simp[ai]
   show rH _ _ _ (cells.getD (i*(T.get e).size+j) Xc3);rw[this]
   exact q3.mono bb.k)
  refine⟨S1,_,by rw[AU];exact m2,by rw[AU];exact k1.trans k2,?_,?_⟩
  ·refine .own self len _ len len (some ⟨w.heap.size,0,none⟩) rfl rfl (λe2 bk bl f2 M=>?_) (λcs M=>?_)
   ·rw[AU] at M;simp only[Ag,gL,X24,OB.row.injEq] at M;obtain⟨rfl,rfl,rfl,rfl⟩:=M;exact⟨by omega,λ_=>.inr ⟨_,_,gL _ _ _,rfl⟩⟩
   rw[AU] at M;simp[Ag] at M
  intro r hr;simp only[AV.refs,X14] at hr;subst hr;rw[AU];simp[Ag]
 exact h.elim
def Y1 {T:TT}{e:Nat}(h:vP T e=true):(T.get e).kind.sG=some true:=by
 unfold vP at h;split at h
 ·assumption
 simp at h
def Oj {obl:O (C OB)}(hT:rc P T)(m:Mem E w S φ (λr=>obl.getD r none)){t len self:Nat}{H:O AV}{vs:Array (Nat×A)}{K:AV->W->Prop} (hp:JB S w φ (λr=>obl.getD r none) [(0,.agg H)] vs.toList) (h:KT T t len self H obl K) : ∃out wr u w',K out wr/\(∀r o,(r,o)∈wr->r<obl.length)/\(Xcu t len vs).run P w=.ok u w'/\s6 E w S φ (λr=>obl.getD r none) out wr u w':=by
 unfold KT at h;split at h
 ·rename_i e hk;rw[Eu,AH] at h;simp only[X27] at h;obtain⟨J,⟨⟨⟨⟨c1,c2⟩,c3⟩,c4⟩,c5⟩,hK⟩:=h;have V:len=1:=X30 c1;subst V;have a7:=Y1 c2;have s7:(T.get e).size=H.length:=X30 c3;have Y:0<(T.get e).size:=X29 c4;have ak:(T.get e).size<=65536:=X29 c5;obtain⟨a8,aa⟩:=CV J;have ab:=hT.of (t:=e) (by rw[a7];simp);obtain⟨ie,z,ae,M,al,hz,an,_⟩:=ab.sV;obtain⟨u,af,hu,Z⟩ :∃u,vs=#[(0,u)]/\gM S w φ (λr=>obl.getD r none) (.agg H) u/\gO (λr=>obl.getD r none) (.agg H):=by
   generalize ag:vs.toList=l at hp;cases hp with
   | @cons _ q _ l' h1 h2=>
    cases h2 with
    | nil=>obtain⟨q1,q2⟩:=q;refine⟨q2,?_,h1.2.1,h1.2.2⟩;have:q1=0:=h1.1.symm;subst this;exact Array.toList_inj.1 ag
  subst af;cases hu with|agg _ us f hs hf hn hr=>
  obtain⟨r,g1,g2,g3⟩:=Great.fill_dense Y [Value.agg us] 0 ((Xdd (1*(T.get e).size)).map (z.cells[· % z.cells.size]!)) (by intro v hv;rw[X14.1 hv];simp only[Xdj];omega) (by simp);have a1:(Xcu t 1 #[(0,Value.agg us)]).run P w=.ok (.slice (some ⟨w.heap.size,0,none⟩) 1 1) (w.alloc (.cells r e)):=by
   have Q:Instr.fill (λi=>some (i*ie.size,ie.size)) ((Xdd (1*ie.size)).map (z.cells[· % z.cells.size]!)) #[(0,Value.agg us)].toList=some r:=by rw[M];exact g1
   exact run_buildSlice w t e 1 _ r ie z (BA hT hk) ae hz (by rw[M];omega) (by rw[M];omega) Q
  have ah:r.size=H.length:=by rw[g2];simp;omega
  have ai :∀j,j<H.length->r[j]?=some (f j):=by intro j hj;rw[g3,Xy ⟨by omega,by simp;omega⟩];have e1:j/(T.get e).size=0:=Nat.div_eq_of_lt (by omega);have e2:j%(T.get e).size=j:=Xbe (by omega);rw[e1,e2];simpa[Xdj] using hf j hj
  obtain⟨m2,k2⟩:=m.alloc self (1,0) (.box H) r e a8 (λU F=>Z U (by simpa[OB.refs,AV.refs] using F)) (λaj=>by
   refine⟨w.heap.size,(1,0),r,e,f,gL _ _ _,heap_alloc_new w _,ah,λo ho=>absurd (m.bS _ _ ho) (Nat.lt_irrefl _),ai,λj hj=>⟨hn j hj,?_⟩⟩
   exact aj.tZ (λU F=>Z U (by simpa[AV.refs] using AV.rv H j hj U F)) (hr j hj))
  refine⟨_,_,_,_,hK,λU o hm=>?_,a1,S,_,m2,k2,?_,?_⟩
  ·simp only[X14,X26] at hm;rw[hm.1];exact aa
  ·refine .own self 1 _ 1 1 (some ⟨w.heap.size,0,none⟩) rfl rfl (λe2 ao ap f2 a6=>?_) (λaq a6=>⟨rfl,_,_,gL _ _ _,rfl⟩);simp[Ag] at a6
  intro U F;simp only[AV.refs,X14] at F;subst F;simp[Ag]
 exact h.elim
def OA {obl:O (C OB)}(H:rc P T)(m:Mem E w S φ (λr=>obl.getD r none)){t len self:Nat}{F:O AV}{vs:Array (Nat×A)}{K:AV->W->Prop}(hp:JB S w φ (λr=>obl.getD r none) [(0,.agg F)] vs.toList)(h:LM T t len self F obl K) :∃out wr u w',K out wr/\(∀r o,(r,o)∈wr->r<obl.length)/\(Xcu t len vs).run P w=.ok u w'/\s6 E w S φ (λr=>obl.getD r none) out wr u w':=False.elim h
def MR {obl:O (C OB)}(F:rc P T)(m:Mem E w S φ (λr=>obl.getD r none)){t len self:Nat}{H:O (Nat×AV)}{vs:Array (Nat×A)}{K:AV->W->Prop} (hp:JB S w φ (λr=>obl.getD r none) H vs.toList) (h:ID T t len self H obl K) : ∃out wr u w',K out wr/\(∀r o,(r,o)∈wr->r<obl.length)/\(Xcu t len vs).run P w=.ok u w'/\s6 E w S φ (λr=>obl.getD r none) out wr u w':=by
 unfold ID at h;split at h
 ·rcases h with h|h
  ·exact JK F m hp h
  rcases h with h|h
  ·exact Oj F m hp h
  exact OA F m hp h
 exact JK F m hp h
end
end Go.AX
end
