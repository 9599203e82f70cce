/-
  Texts of one proof, packed.
-/
import Derived.Test.YtppcmaidcgimpaaGreatDoorS6
import Derived.Laws.DeepStrings4
import Derived.Laws.MakeOwn
set_option linter.all false
set_option maxRecDepth 100000
set_option maxHeartbeats 4000000
open List renaming length_map→X6,length_append→X10,mem_singleton→X13,length_drop→X16,length_take→X17,length_replicate→X19,length_set→X20
open Option.some renaming injEq→X23
open Prod.mk renaming injEq→X25
open Bool renaming and_eq_true→X26
open Nat renaming le_of_ble_eq_true→X28,eq_of_beq_eq_true→X29,mul_le_mul_right→X30,add_mul→X31
open List renaming replicate→Xal
open Go renaming run_underlying→Wo,maxLen→Xb6,undef→Xbn,heap_alloc_new→Xcq,typeInfo→Xde
open Go.Sem renaming run_bind→Xad
section
namespace Go.AX
section
variable {P:Program} {T:TT} {E:Env} {w:B} {S:Sc} {φ:Nat->O (Nat×Rp)} {ob:Nat->O OB}
def Xw {sz:Nat}{d:D}{lo M:O AV}{K:AV->Prop}(h:Sz sz d lo M K) :∃(es:I D) (l H:Int),d=.qY sz es/\ (lo=none/\l=0 \/∃k,lo=some (.d (.val (.int k l))))/\(M=none/\H=es.length \/∃k,M=some (.d (.val (.int k H))))/\0<=l/\l<=H/\H<=es.length/\K (.d (.qY sz ((es.drop l.toNat).take (H.toNat-l.toNat)))):=by
 cases d with
 | qY U es=>
  simp only[Sz,AD] at h;obtain⟨Q,h⟩:=h;have Q:=X29 Q;subst Q;have b :∀(o:O AV) (F:Int) (K:Int->Prop),Dm o F K->∃i,(o=none/\i=F \/∃k,o=some (.d (.val (.int k i))))/\K i:=by
   intro o F K J;unfold Dm at J;split at J
   ·exact⟨F,.inl ⟨rfl,rfl⟩,J⟩
   ·exact⟨_,.inr ⟨_,rfl⟩,J⟩
   exact J.elim
  obtain⟨l,V,h⟩:=b _ _ _ h;obtain⟨u,Y,h⟩:=b _ _ _ h;obtain⟨⟨Z,c2,c3⟩,ys,rfl,hK⟩:=h;exact⟨es,l,u,rfl,V,Y,Z,c2,c3,hK⟩
 | _=>simp[Sz] at h
def qf.part {sz:Nat}{es:I D}{a:O Addr}{n cap l h:Nat}(M:qf S w (.qY sz es) (.slice a n cap))(h1:l<=h)(U:h<=es.length) : n=es.length/\n<=cap/\qf S w (.qY sz ((es.drop l).take (h-l))) (.slice (if cap=l then a else a.map (·.add (l*sz))) (h-l) (cap-l)):=by
 cases M with
 | ri=>
  have:h=0:=by simpa using U
  subst this;have:l=0:=by omega
  subst this;exact⟨rfl,Xco _,by simpa using qf.ri _ _ _⟩
 | qY _ _ b o _ f hl V qE Y Z M=>
  refine⟨rfl,V,?_⟩;by_cases e:h=l
  ·subst e;simp only[Nat.sub_self,List.take_zero];exact .ri _ _ _
  have Q:¬ cap=l:=by omega
  rw[Xk Q];have J:((es.drop l).take (h-l)).length=h-l:=by simp;omega
  have F :∀i (H:i<((es.drop l).take (h-l)).length),((es.drop l).take (h-l))[i]=es[l+i]'(by omega):=by intro i H;simp
  have:=qf.qY (S:=S) (w:=w) sz ((es.drop l).take (h-l)) b (o+l*sz) (cap-l) (λi j=>f (l+i) j) (by omega) (by omega) (λi H=>by rw[F i H];exact qE _ _) (λi j H K=>?_) (λi H j K=>?_) (λi H j K=>?_)
  ·rw[J] at this;simpa only[Xbf,Addr.qV] using this
  ·rw[J] at H;have:=Y (l+i) j (by omega) K;have e2:o+(l+i)*sz+j=o+l*sz+i*sz+j:=by rw[X31];omega
   rwa [e2] at this
  ·have:=F i H;simp only[this] at K⊢;exact Z (l+i) (by omega) j K
  have:=F i H;simp only[this] at K⊢;exact M (l+i) (by omega) j K
def Es {k:IntKind}{i:Int}{y:Nat}{c:BoundsCode}(h:0<=i/\i<=y):(Instr.sliceBound (.int k i) y c).run P w=.ok i.toNat w:=by unfold Instr.sliceBound;simp[asIntOf,h.1,h.2]
def Hy {t e:Nat}{F:TypeInfo}(J:P.underlying t=some (.slice e))(K:P.info? e=some F){a:O Addr}{len cap:Nat}{lo hi':O A}{l h:Nat} (M:lo=none/\l=0 \/∃k,lo=some (.int k (l:Int))) (Q:hi'=none/\h=len \/∃k,hi'=some (.int k (h:Int))) (V:l<=h) (Y:h<=len) (Z:len<=cap) : (Instr.sliceAt t (.slice a len cap) lo hi' none).run P w=.ok (.slice (if cap=l then a else a.map (·.add (l*F.size))) (h-l) (cap-l)) w:=by
 unfold Instr.sliceAt;have U:(Instr.sliceBounds true len cap lo hi' none).run P w=.ok (l,h,cap) w:=by
  unfold Instr.sliceBounds;rcases M with ⟨rfl,rfl⟩|⟨k,rfl⟩<;>rcases Q with ⟨rfl,rfl⟩|⟨H,rfl⟩
  ·simp
  ·simp[Xad,Es (P:=P) (w:=w) (k:=H) (c:=.sliceAcap) (i:=(h:Int)) (y:=cap) ⟨by omega,by omega⟩]
  ·simp[Xad,Es (P:=P) (w:=w) (k:=k) (c:=.sliceB) (i:=(l:Int)) (y:=h) ⟨by omega,by omega⟩]
  simp[Xad,Es (P:=P) (w:=w) (k:=H) (c:=.sliceAcap) (i:=(h:Int)) (y:=cap) ⟨by omega,by omega⟩,Es (P:=P) (w:=w) (k:=k) (c:=.sliceB) (i:=(l:Int)) (y:=h) ⟨by omega,by omega⟩]
 simp[Xad,Wo J,Instr.slice,U,sizeOf,Xde,K]
def TV {t:Nat}(H:P.underlying t=some .string){s:ByteArray}{lo hi':O A}{l h:Nat} (J:lo=none/\l=0 \/∃k,lo=some (.int k (l:Int))) (K:hi'=none/\h=s.size \/∃k,hi'=some (.int k (h:Int))) (Q:l<=h) (U:h<=s.size) : (Instr.sliceAt t (.string s) lo hi' none).run P w=.ok (.string (s.extract l h)) w:=by
 unfold Instr.sliceAt;have M:(Instr.sliceBounds false s.size s.size lo hi' none).run P w=.ok (l,h,s.size) w:=by
  unfold Instr.sliceBounds;rcases J with ⟨rfl,rfl⟩|⟨k,rfl⟩<;>rcases K with ⟨rfl,rfl⟩|⟨F,rfl⟩
  ·simp
  ·simp[Xad,Es (P:=P) (w:=w) (k:=F) (c:=.sliceAlen) (i:=(h:Int)) (y:=s.size) ⟨by omega,by omega⟩]
  ·simp[Xad,Es (P:=P) (w:=w) (k:=k) (c:=.sliceB) (i:=(l:Int)) (y:=s.size) ⟨by omega,by omega⟩]
  simp[Xad,Es (P:=P) (w:=w) (k:=F) (c:=.sliceAlen) (i:=(h:Int)) (y:=s.size) ⟨by omega,by omega⟩,Es (P:=P) (w:=w) (k:=k) (c:=.sliceB) (i:=(l:Int)) (y:=h) ⟨by omega,by omega⟩]
 simp[Xad,Wo H,Instr.slice,M]
def SB {z:D}{v:A}(h:Ir z v):z.isAgg=false/\qf S w z v:=by
 cases z with
 | val u=>obtain⟨rfl,F⟩:=h;exact⟨rfl,.val _ F⟩
 | nil sz=>simp only[Ir] at h;subst h;exact⟨rfl,.nil _⟩
 | _=>simp[Ir] at h
def Xd {obl:I (O OB)}(hT:py P T)(m:Mem E w S φ (λr=>obl.getD r none)){t self:Nat}{n c:AV}{vn vc:A}{K:AV->W->Prop} (hn:gM S w φ (λr=>obl.getD r none) n vn) (hc:gM S w φ (λr=>obl.getD r none) c vc) (h:Zv T t self n c obl K) : ∃out wr u w',K out wr/\(∀r o,(r,o)∈wr->r<obl.length)/\(Instr.makeSlice t vn vc).run P w=.ok u w'/\qH E w S φ (λr=>obl.getD r none) out wr u w':=by
 unfold Zv at h;split at h
 ·rename_i e n c hk;rw[FC,AD,X26,X26] at h;obtain⟨Y,⟨⟨ah,ai⟩,V⟩,⟨b1,b2,b3,b4⟩,z,hz,zs,aj,hK⟩:=h;have a7:0<(T.get e).size:=X28 ai;obtain⟨ak,al⟩:=DD Y;have an:=hT.of (BC ah);obtain⟨ie,F,ao,ap,aq,ar,au,ax,a8⟩:=an.rz;obtain rfl:=hn.int;obtain rfl:=hc.int
  have aa:=run_make (P:=P) w t e ie F (BU hT hk) ao ar .i64 .i64 n c b1 b2 (by
   rw[aq];have:((T.get e).bytes:Int)*c<=65536*1048576:=Int.mul_le_mul (by omega) b3 (by omega) (by omega)
   omega) (by omega)
  have ab:z.cells=(T.get e).zero.map λx=>match x with
    | .nil sz=>.qY sz []
    | x=>x:=by
   rw[<- hz];split
   ·rfl
   rename_i ay;have h1:(T.get e).size=1:=by
    split at V
    ·rename_i hq;exact absurd hq ay
    exact X29 V
   have hl:(T.get e).zero.length=1:=by omega
   obtain⟨x,hx⟩:=List.length_eq_one_iff.1 hl;have ae :∀y∈(T.get e).zero,y.isAgg=false:=by
    intro y hy;obtain⟨j,J,rfl⟩:=Wr hy;have H:j<F.cells.size:=by omega
    exact (SB (S:=S) (w:=w) (a8 j J F.cells[j] (by simp[H]))).1
   rw[hx] at ae⊢;have:=ae x (by simp);cases x<;>first|rfl|simp[D.isAgg] at this
  have af:z.cells.length=(T.get e).size:=by rw[ab];simp[ax]
  have M :∀j (J:j<z.cells.length),∃u,F.cells[j]?=some u/\z.cells[j].isAgg=false/\qf S w z.cells[j] u:=by
   intro j J;have az:j<(T.get e).zero.length:=by rw[af] at J;omega
   have H:j<F.cells.size:=by omega
   have b0:=a8 j az F.cells[j] (by simp[H]);refine⟨F.cells[j],by simp[H],?_⟩
   have e1:z.cells[j]=(match (T.get e).zero[j] with
    | .nil sz=>.qY sz []
    | x=>x):=by simp[ab]
   rw[e1];obtain⟨a1,Z⟩:=SB (S:=S) (w:=w) b0;cases hq:(T.get e).zero[j] with
   | nil sz=>rw[hq] at Z;generalize F.cells[j]=u at Z⊢;cases Z;exact⟨rfl,.ri _ _ _⟩
   | val v=>rw[hq] at a1 Z;exact⟨a1,Z⟩
   | agg cs=>rw[hq] at a1;simp[D.isAgg] at a1
   | qY sz es=>rw[hq] at a1 Z;exact⟨rfl,Z⟩
  subst aj;have a6 :∀i (Q:i<(Xal n.toNat z).length),(Xal n.toNat z)[i]=z:=by intro i Q;simp
  refine⟨_,_,_,_,hK,λr o hm=>?_,aa,?_⟩
  ·simp only[X13,X25] at hm;rw[hm.1];exact al
  have qE:(madeCells F.cells (c.toNat*ie.size)).size=c.toNat*(T.get e).size:=by rw[size_madeCells,ap]
  have ba :∀i j,i<n.toNat->j<(T.get e).size->(madeCells F.cells (c.toNat*ie.size))[i*(T.get e).size+j]?=F.cells[j]?:=by
   intro i j Q J;have bb:(i+1)*(T.get e).size<=c.toNat*(T.get e).size:=X30 _ (by omega);rw[X31] at bb;have ag:i*(T.get e).size+j<(madeCells F.cells (c.toNat*ie.size)).size:=by omega
   rw[Array.getElem?_eq_getElem ag];have hm:(i*(T.get e).size+j)%F.cells.size=j:=by rw[au,Xbe,Nat.mul_add_mod,Xbd J]
   have H:j<F.cells.size:=by omega
   simp only[madeCells,Array.getElem_map,Array.getElem_range,hm];simp[H]
  obtain⟨m2,k2⟩:=m.alloc self (c.toNat,0) (.row e (T.get e).size (Xal n.toNat z) .no) (madeCells F.cells (c.toNat*ie.size)) e ak (λr hr=>by simp[OB.refs] at hr) (λbc=>by
   refine⟨a7,λi Q=>by rw[a6 i Q];exact af,λi Q j J=>?_,.inr ⟨w.heap.size,(c.toNat,0),madeCells F.cells (c.toNat*ie.size),λi j=>F.cells.getD j Xbn,gL _ _ _,Xcq w _,by simp;omega,?_,Nat.le_of_eq ((Xaa _).trans qE.symm),λi j Q J=>?_,λi Q j J=>?_,λo _ ho=>absurd (m.bS _ _ ho) (Nat.lt_irrefl _),λ_ _ _ _ h=>nomatch h⟩⟩
   ·have:=a6 i Q;simp only[this] at J⊢;exact (M j J).choose_spec.2.1
   ·simp only[Xb6];omega
   ·simp only[X19] at Q;simp only[Xaa];rw[ba i j Q J];have H:j<F.cells.size:=by omega
    simp[H]
   have:=a6 i Q;simp only[this] at J⊢;obtain⟨u,q1,q2,q3⟩:=M j J;have:F.cells.getD j Xbn=u:=by simp[q1]
   rw[this]
   exact q3.mono bc.k)
  refine⟨S,_,m2,k2,?_,?_⟩
  ·refine .own self _ _ n.toNat c.toNat (some ⟨w.heap.size,0,none⟩) rfl (by simp) (λe2 bd be f2 U=>?_) (λcs U=>?_)
   ·simp only[Ak,gL,X23,OB.row.injEq] at U;obtain⟨rfl,rfl,rfl,rfl⟩:=U;exact⟨by simp,λ_=>.inr ⟨_,_,gL _ _ _,by simp⟩⟩
   simp[Ak] at U
  intro r hr;simp only[AV.refs,X13] at hr;subst hr;simp[Ak]
 exact h.elim
end
end Go.AX
end
