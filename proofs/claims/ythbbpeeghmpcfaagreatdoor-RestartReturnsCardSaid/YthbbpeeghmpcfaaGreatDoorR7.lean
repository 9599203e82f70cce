/-
  Texts of one proof, packed.
-/
import Derived.Test.YthbbpeeghmpcfaaGreatDoorR6
import Derived.Laws.DeepStrings4
import Derived.Laws.MakeOwn
set_option linter.all false
set_option maxRecDepth 100000
set_option maxHeartbeats 4000000
open List renaming length_map→X1,length_append→X2,mem_singleton→X11,length_drop→X14,length_take→X15,length_replicate→X17,length_set→X18
open Option.some renaming injEq→X21
open Prod.mk renaming injEq→X23
open Bool renaming and_eq_true→X24
open Nat renaming le_of_ble_eq_true→X26,eq_of_beq_eq_true→X27,mul_le_mul_right→X28,add_mul→X29
open List renaming replicate→Xaa
open Go renaming run_underlying→Xae,undef→Xck,typeInfo→Xdx,maxLen→Xc7
open Go.Sem renaming run_bind→Xb0
section
namespace Go.AX
section
variable {P:Program} {T:TT} {E:Env} {w:B} {S:Sc} {φ:Nat->C (Nat×Rp)} {ob:Nat->C OB}
def bG {sz:Nat}{d:D}{lo M:C AV}{K:AV->Prop}(h:Uj sz d lo M K) :∃(es:O D) (l H:Int),d=.Cg sz es/\ (lo=none/\l=0 \/∃k,lo=some (.d (.val (.int k l))))/\(M=none/\H=es.length \/∃k,M=some (.d (.val (.int k H))))/\0<=l/\l<=H/\H<=es.length/\K (.d (.Cg sz ((es.drop l.toNat).take (H.toNat-l.toNat)))):=by
 cases d with
 | Cg U es=>
  simp only[Uj,AI] at h;obtain⟨Q,h⟩:=h;have Q:=X27 Q;subst Q;have b :∀(o:C AV) (F:Int) (K:Int->Prop),Du o F K->∃i,(o=none/\i=F \/∃k,o=some (.d (.val (.int k i))))/\K i:=by
   intro o F K J;unfold Du at J;split at J
   ·exact⟨F,.inl ⟨rfl,rfl⟩,J⟩
   ·exact⟨_,.inr ⟨_,rfl⟩,J⟩
   exact J.elim
  obtain⟨l,V,h⟩:=b _ _ _ h;obtain⟨u,Y,h⟩:=b _ _ _ h;obtain⟨⟨Z,c2,c3⟩,ys,rfl,hK⟩:=h;exact⟨es,l,u,rfl,V,Y,Z,c2,c3,hK⟩
 | _=>simp[Uj] at h
def zf.part {sz:Nat}{es:O D}{a:C Addr}{n cap l h:Nat}(M:zf S w (.Cg sz es) (.slice a n cap))(h1:l<=h)(U:h<=es.length) : n=es.length/\n<=cap/\zf S w (.Cg sz ((es.drop l).take (h-l))) (.slice (if cap=l then a else a.map (·.add (l*sz))) (h-l) (cap-l)):=by
 cases M with
 | zZ=>
  have:h=0:=by simpa using U
  subst this;have:l=0:=by omega
  subst this;exact⟨rfl,Xef _,by simpa using zf.zZ _ _ _⟩
 | Cg _ _ b o _ f hl V zx Y Z M=>
  refine⟨rfl,V,?_⟩;by_cases e:h=l
  ·subst e;simp only[Nat.sub_self,List.take_zero];exact .zZ _ _ _
  have Q:¬ cap=l:=by omega
  rw[Xa1 Q];have J:((es.drop l).take (h-l)).length=h-l:=by simp;omega
  have F :∀i (H:i<((es.drop l).take (h-l)).length),((es.drop l).take (h-l))[i]=es[l+i]'(by omega):=by intro i H;simp
  have:=zf.Cg (S:=S) (w:=w) sz ((es.drop l).take (h-l)) b (o+l*sz) (cap-l) (λi j=>f (l+i) j) (by omega) (by omega) (λi H=>by rw[F i H];exact zx _ _) (λi j H K=>?_) (λi H j K=>?_) (λi H j K=>?_)
  ·rw[J] at this;simpa only[Xcb,Addr.C8] using this
  ·rw[J] at H;have:=Y (l+i) j (by omega) K;have e2:o+(l+i)*sz+j=o+l*sz+i*sz+j:=by rw[X29];omega
   rwa [e2] at this
  ·have:=F i H;simp only[this] at K⊢;exact Z (l+i) (by omega) j K
  have:=F i H;simp only[this] at K⊢;exact M (l+i) (by omega) j K
def FO {k:IntKind}{i:Int}{y:Nat}{c:BoundsCode}(h:0<=i/\i<=y):(Instr.sliceBound (.int k i) y c).run P w=.ok i.toNat w:=by unfold Instr.sliceBound;simp[asIntOf,h.1,h.2]
def Im {t e:Nat}{F:TypeInfo}(J:P.underlying t=some (.slice e))(K:P.info? e=some F){a:C Addr}{len cap:Nat}{lo hi':C A}{l h:Nat} (M:lo=none/\l=0 \/∃k,lo=some (.int k (l:Int))) (Q:hi'=none/\h=len \/∃k,hi'=some (.int k (h:Int))) (V:l<=h) (Y:h<=len) (Z:len<=cap) : (Instr.sliceAt t (.slice a len cap) lo hi' none).run P w=.ok (.slice (if cap=l then a else a.map (·.add (l*F.size))) (h-l) (cap-l)) w:=by
 unfold Instr.sliceAt;have U:(Instr.sliceBounds true len cap lo hi' none).run P w=.ok (l,h,cap) w:=by
  unfold Instr.sliceBounds;rcases M with ⟨rfl,rfl⟩|⟨k,rfl⟩<;>rcases Q with ⟨rfl,rfl⟩|⟨H,rfl⟩
  ·simp
  ·simp[Xb0,FO (P:=P) (w:=w) (k:=H) (c:=.sliceAcap) (i:=(h:Int)) (y:=cap) ⟨by omega,by omega⟩]
  ·simp[Xb0,FO (P:=P) (w:=w) (k:=k) (c:=.sliceB) (i:=(l:Int)) (y:=h) ⟨by omega,by omega⟩]
  simp[Xb0,FO (P:=P) (w:=w) (k:=H) (c:=.sliceAcap) (i:=(h:Int)) (y:=cap) ⟨by omega,by omega⟩,FO (P:=P) (w:=w) (k:=k) (c:=.sliceB) (i:=(l:Int)) (y:=h) ⟨by omega,by omega⟩]
 simp[Xb0,Xae J,Instr.slice,U,sizeOf,Xdx,K]
def VC {t:Nat}(H:P.underlying t=some .string){s:ByteArray}{lo hi':C A}{l h:Nat} (J:lo=none/\l=0 \/∃k,lo=some (.int k (l:Int))) (K:hi'=none/\h=s.size \/∃k,hi'=some (.int k (h:Int))) (Q:l<=h) (U:h<=s.size) : (Instr.sliceAt t (.string s) lo hi' none).run P w=.ok (.string (s.extract l h)) w:=by
 unfold Instr.sliceAt;have M:(Instr.sliceBounds false s.size s.size lo hi' none).run P w=.ok (l,h,s.size) w:=by
  unfold Instr.sliceBounds;rcases J with ⟨rfl,rfl⟩|⟨k,rfl⟩<;>rcases K with ⟨rfl,rfl⟩|⟨F,rfl⟩
  ·simp
  ·simp[Xb0,FO (P:=P) (w:=w) (k:=F) (c:=.sliceAlen) (i:=(h:Int)) (y:=s.size) ⟨by omega,by omega⟩]
  ·simp[Xb0,FO (P:=P) (w:=w) (k:=k) (c:=.sliceB) (i:=(l:Int)) (y:=s.size) ⟨by omega,by omega⟩]
  simp[Xb0,FO (P:=P) (w:=w) (k:=F) (c:=.sliceAlen) (i:=(h:Int)) (y:=s.size) ⟨by omega,by omega⟩,FO (P:=P) (w:=w) (k:=k) (c:=.sliceB) (i:=(l:Int)) (y:=h) ⟨by omega,by omega⟩]
 simp[Xb0,Xae H,Instr.slice,M]
def Ls {z:D}{v:A}(h:JZ z v):z.isAgg=false/\zf S w z v:=by
 cases z with
 | val u=>obtain⟨rfl,F⟩:=h;exact⟨rfl,.val _ F⟩
 | nil sz=>simp only[JZ] at h;subst h;exact⟨rfl,.nil _⟩
 | _=>simp[JZ] at h
def aB {obl:O (C OB)}(hT:xD P T)(m:Mem E w S φ (λr=>obl.getD r none)){t self:Nat}{n c:AV}{vn vc:A}{K:AV->W->Prop} (hn:kI S w φ (λr=>obl.getD r none) n vn) (hc:kI S w φ (λr=>obl.getD r none) c vc) (h:iq T t self n c obl K) : ∃a7 wr u w',K a7 wr/\(∀r o,(r,o)∈wr->r<obl.length)/\(Instr.makeSlice t vn vc).run P w=.ok u w'/\zP E w S φ (λr=>obl.getD r none) a7 wr u w':=by
 unfold iq at h;split at h
 ·rename_i e n c hk;rw[En,AI,X24,X24] at h;obtain⟨Y,⟨⟨ai,aj⟩,V⟩,⟨b1,b2,b3,b4⟩,z,hz,zs,ak,hK⟩:=h;have a8:0<(T.get e).size:=X26 aj;obtain⟨al,an⟩:=CQ Y;have ao:=hT.of (Ar ai);obtain⟨ie,F,ap,aq,ar,au,ax,ay,aa⟩:=ao.Dg;obtain rfl:=hn.int;obtain rfl:=hc.int
  have ab:=run_make (P:=P) w t e ie F (Av hT hk) ap au .i64 .i64 n c b1 b2 (by
   rw[ar];have:((T.get e).bytes:Int)*c<=65536*1048576:=Int.mul_le_mul (by omega) b3 (by omega) (by omega)
   omega) (by omega)
  have ae:z.cells=(T.get e).zero.map λx=>match x with
    | .nil sz=>.Cg sz []
    | x=>x:=by
   rw[<- hz];split
   ·rfl
   rename_i az;have h1:(T.get e).size=1:=by
    split at V
    ·rename_i hq;exact absurd hq az
    exact X27 V
   have hl:(T.get e).zero.length=1:=by omega
   obtain⟨x,hx⟩:=List.length_eq_one_iff.1 hl;have af :∀y∈(T.get e).zero,y.isAgg=false:=by
    intro y hy;obtain⟨j,J,rfl⟩:=Xai hy;have H:j<F.cells.size:=by omega
    exact (Ls (S:=S) (w:=w) (aa j J F.cells[j] (by simp[H]))).1
   rw[hx] at af⊢;have:=af x (by simp);cases x<;>first|rfl|simp[D.isAgg] at this
  have ag:z.cells.length=(T.get e).size:=by rw[ae];simp[ay]
  have M :∀j (J:j<z.cells.length),∃u,F.cells[j]?=some u/\z.cells[j].isAgg=false/\zf S w z.cells[j] u:=by
   intro j J;have ba:j<(T.get e).zero.length:=by rw[ag] at J;omega
   have H:j<F.cells.size:=by omega
   have bb:=aa j ba F.cells[j] (by simp[H]);refine⟨F.cells[j],by simp[H],?_⟩
   have e1:z.cells[j]=(match (T.get e).zero[j] with
    | .nil sz=>.Cg sz []
    | x=>x):=by simp[ae]
   rw[e1];obtain⟨a1,Z⟩:=Ls (S:=S) (w:=w) bb;cases hq:(T.get e).zero[j] with
   | nil sz=>rw[hq] at Z;generalize F.cells[j]=u at Z⊢;cases Z;exact⟨rfl,.zZ _ _ _⟩
   | val v=>rw[hq] at a1 Z;exact⟨a1,Z⟩
   | agg cs=>rw[hq] at a1;simp[D.isAgg] at a1
   | Cg sz es=>rw[hq] at a1 Z;exact⟨rfl,Z⟩
  subst ak;have a6 :∀i (Q:i<(Xaa n.toNat z).length),(Xaa n.toNat z)[i]=z:=by intro i Q;simp
  refine⟨_,_,_,_,hK,λr o hm=>?_,ab,?_⟩
  ·simp only[X11,X23] at hm;rw[hm.1];exact an
  have zx:(madeCells F.cells (c.toNat*ie.size)).size=c.toNat*(T.get e).size:=by rw[size_madeCells,aq]
  have bc :∀i j,i<n.toNat->j<(T.get e).size->(madeCells F.cells (c.toNat*ie.size))[i*(T.get e).size+j]?=F.cells[j]?:=by
   intro i j Q J;have bd:(i+1)*(T.get e).size<=c.toNat*(T.get e).size:=X28 _ (by omega);rw[X29] at bd;have ah:i*(T.get e).size+j<(madeCells F.cells (c.toNat*ie.size)).size:=by omega
   rw[Array.getElem?_eq_getElem ah];have hm:(i*(T.get e).size+j)%F.cells.size=j:=by rw[ax,Xc6,Nat.mul_add_mod,Xbf J]
   have H:j<F.cells.size:=by omega
   simp only[madeCells,Array.getElem_map,Array.getElem_range,hm];simp[H]
  obtain⟨m2,k2⟩:=m.alloc self (c.toNat,0) (.row e (T.get e).size (Xaa n.toNat z) .no) (madeCells F.cells (c.toNat*ie.size)) e al (λr hr=>by simp[OB.refs] at hr) (λbe=>by
   refine⟨a8,λi Q=>by rw[a6 i Q];exact ag,λi Q j J=>?_,.inr ⟨w.heap.size,(c.toNat,0),madeCells F.cells (c.toNat*ie.size),λi j=>F.cells.getD j Xck,gS _ _ _,heap_alloc_new w _,by simp;omega,?_,Nat.le_of_eq ((Xbc _).trans zx.symm),λi j Q J=>?_,λi Q j J=>?_,λo _ ho=>absurd (m.bS _ _ ho) (Xep _),λ_ _ _ _ h=>nomatch h⟩⟩
   ·have:=a6 i Q;simp only[this] at J⊢;exact (M j J).choose_spec.2.1
   ·simp only[Xc7];omega
   ·simp only[X17] at Q;simp only[Xbc];rw[bc i j Q J];have H:j<F.cells.size:=by omega
    simp[H]
   have:=a6 i Q;simp only[this] at J⊢;obtain⟨u,q1,q2,q3⟩:=M j J;have:F.cells.getD j Xck=u:=by simp[q1]
   rw[this]
   exact q3.mono be.k)
  refine⟨S,_,m2,k2,?_,?_⟩
  ·refine .own self _ _ n.toNat c.toNat (some ⟨w.heap.size,0,none⟩) rfl (by simp) (λe2 bf bg f2 U=>?_) (λcs U=>?_)
   ·simp only[Af,gS,X21,OB.row.injEq] at U;obtain⟨rfl,rfl,rfl,rfl⟩:=U;exact⟨by simp,λ_=>.inr ⟨_,_,gS _ _ _,by simp⟩⟩
   simp[Af] at U
  intro r hr;simp only[AV.refs,X11] at hr;subst hr;simp[Af]
 exact h.elim
end
end Go.AX
end
