/-
  Texts of one proof, packed.
-/
import Derived.Test.YtgbncopbacigiaaGreatDoorD6
import Derived.Laws.DeepStrings4
import Derived.Laws.MakeOwn
set_option linter.all false
set_option maxRecDepth 100000
set_option maxHeartbeats 4000000
open List renaming length_map→X10,length_append→X11,mem_singleton→X14,length_drop→X17,length_take→X18,length_replicate→X20,length_set→X21
open Option.some renaming injEq→X24
open Prod.mk renaming injEq→X26
open Bool renaming and_eq_true→X27
open Nat renaming le_of_ble_eq_true→X29,eq_of_beq_eq_true→X30,mul_le_mul_right→X31,add_mul→X32
open List renaming replicate→Xb6
open Go renaming run_underlying→Xa5,maxLen→Xbl,undef→Xc3
open Go.Sem renaming run_bind→Xa9
section
namespace Go.AX
section
variable {P:Program} {T:TT} {E:Env} {w:B} {S:Sc} {φ:Nat->C (Nat×Rp)} {ob:Nat->C OB}
def XD {sz:Nat}{d:D}{lo M:C AV}{K:AV->Prop}(h:Qy sz d lo M K) :∃(es:O D) (l H:Int),d=.su sz es/\ (lo=none/\l=0 \/∃k,lo=some (.d (.val (.int k l))))/\(M=none/\H=es.length \/∃k,M=some (.d (.val (.int k H))))/\0<=l/\l<=H/\H<=es.length/\K (.d (.su sz ((es.drop l.toNat).take (H.toNat-l.toNat)))):=by
 cases d with
 | su U es=>
  simp only[Qy,AH] at h;obtain⟨Q,h⟩:=h;have Q:=X30 Q;subst Q;have b :∀(o:C AV) (F:Int) (K:Int->Prop),DF o F K->∃i,(o=none/\i=F \/∃k,o=some (.d (.val (.int k i))))/\K i:=by
   intro o F K J;unfold DF at J;split at J
   ·exact⟨F,.inl ⟨rfl,rfl⟩,J⟩
   ·exact⟨_,.inr ⟨_,rfl⟩,J⟩
   exact J.elim
  obtain⟨l,V,h⟩:=b _ _ _ h;obtain⟨u,Y,h⟩:=b _ _ _ h;obtain⟨⟨Z,c2,c3⟩,ys,rfl,hK⟩:=h;exact⟨es,l,u,rfl,V,Y,Z,c2,c3,hK⟩
 | _=>simp[Qy] at h
def rH.part {sz:Nat}{es:O D}{a:C Addr}{n cap l h:Nat}(M:rH S w (.su sz es) (.slice a n cap))(h1:l<=h)(U:h<=es.length) : n=es.length/\n<=cap/\rH S w (.su sz ((es.drop l).take (h-l))) (.slice (if cap=l then a else a.map (·.add (l*sz))) (h-l) (cap-l)):=by
 cases M with
 | sB=>
  have:h=0:=by simpa using U
  subst this;have:l=0:=by omega
  subst this;exact⟨rfl,Xd9 _,by simpa using rH.sB _ _ _⟩
 | su _ _ b o _ f hl V s7 Y Z M=>
  refine⟨rfl,V,?_⟩;by_cases e:h=l
  ·subst e;simp only[Nat.sub_self,List.take_zero];exact .sB _ _ _
  have Q:¬ cap=l:=by omega
  rw[Xj Q];have J:((es.drop l).take (h-l)).length=h-l:=by simp;omega
  have F :∀i (H:i<((es.drop l).take (h-l)).length),((es.drop l).take (h-l))[i]=es[l+i]'(by omega):=by intro i H;simp
  have:=rH.su (S:=S) (w:=w) sz ((es.drop l).take (h-l)) b (o+l*sz) (cap-l) (λi j=>f (l+i) j) (by omega) (by omega) (λi H=>by rw[F i H];exact s7 _ _) (λi j H K=>?_) (λi H j K=>?_) (λi H j K=>?_)
  ·rw[J] at this;simpa only[Xbt,Addr.ss] using this
  ·rw[J] at H;have:=Y (l+i) j (by omega) K;have e2:o+(l+i)*sz+j=o+l*sz+i*sz+j:=by rw[X32];omega
   rwa [e2] at this
  ·have:=F i H;simp only[this] at K⊢;exact Z (l+i) (by omega) j K
  have:=F i H;simp only[this] at K⊢;exact M (l+i) (by omega) j K
def EZ {k:IntKind}{i:Int}{y:Nat}{c:BoundsCode}(h:0<=i/\i<=y):(Instr.sliceBound (.int k i) y c).run P w=.ok i.toNat w:=by unfold Instr.sliceBound;simp[asIntOf,h.1,h.2]
def HW {t e:Nat}{F:TypeInfo}(J:P.underlying t=some (.slice e))(K:P.info? e=some F){a:C Addr}{len cap:Nat}{lo hi':C A}{l h:Nat} (M:lo=none/\l=0 \/∃k,lo=some (.int k (l:Int))) (Q:hi'=none/\h=len \/∃k,hi'=some (.int k (h:Int))) (V:l<=h) (Y:h<=len) (Z:len<=cap) : (Instr.sliceAt t (.slice a len cap) lo hi' none).run P w=.ok (.slice (if cap=l then a else a.map (·.add (l*F.size))) (h-l) (cap-l)) w:=by
 unfold Instr.sliceAt;have U:(Instr.sliceBounds true len cap lo hi' none).run P w=.ok (l,h,cap) w:=by
  unfold Instr.sliceBounds;rcases M with ⟨rfl,rfl⟩|⟨k,rfl⟩<;>rcases Q with ⟨rfl,rfl⟩|⟨H,rfl⟩
  ·simp
  ·simp[Xa9,EZ (P:=P) (w:=w) (k:=H) (c:=.sliceAcap) (i:=(h:Int)) (y:=cap) ⟨by omega,by omega⟩]
  ·simp[Xa9,EZ (P:=P) (w:=w) (k:=k) (c:=.sliceB) (i:=(l:Int)) (y:=h) ⟨by omega,by omega⟩]
  simp[Xa9,EZ (P:=P) (w:=w) (k:=H) (c:=.sliceAcap) (i:=(h:Int)) (y:=cap) ⟨by omega,by omega⟩,EZ (P:=P) (w:=w) (k:=k) (c:=.sliceB) (i:=(l:Int)) (y:=h) ⟨by omega,by omega⟩]
 simp[Xa9,Xa5 J,Instr.slice,U,sizeOf,typeInfo,K]
def Re {t:Nat}(H:P.underlying t=some .string){s:ByteArray}{lo hi':C A}{l h:Nat} (J:lo=none/\l=0 \/∃k,lo=some (.int k (l:Int))) (K:hi'=none/\h=s.size \/∃k,hi'=some (.int k (h:Int))) (Q:l<=h) (U:h<=s.size) : (Instr.sliceAt t (.string s) lo hi' none).run P w=.ok (.string (s.extract l h)) w:=by
 unfold Instr.sliceAt;have M:(Instr.sliceBounds false s.size s.size lo hi' none).run P w=.ok (l,h,s.size) w:=by
  unfold Instr.sliceBounds;rcases J with ⟨rfl,rfl⟩|⟨k,rfl⟩<;>rcases K with ⟨rfl,rfl⟩|⟨F,rfl⟩
  ·simp
  ·simp[Xa9,EZ (P:=P) (w:=w) (k:=F) (c:=.sliceAlen) (i:=(h:Int)) (y:=s.size) ⟨by omega,by omega⟩]
  ·simp[Xa9,EZ (P:=P) (w:=w) (k:=k) (c:=.sliceB) (i:=(l:Int)) (y:=s.size) ⟨by omega,by omega⟩]
  simp[Xa9,EZ (P:=P) (w:=w) (k:=F) (c:=.sliceAlen) (i:=(h:Int)) (y:=s.size) ⟨by omega,by omega⟩,EZ (P:=P) (w:=w) (k:=k) (c:=.sliceB) (i:=(l:Int)) (y:=h) ⟨by omega,by omega⟩]
 simp[Xa9,Xa5 H,Instr.slice,M]
def QX {z:D}{v:A}(h:IH z v):z.isAgg=false/\rH S w z v:=by
 cases z with
 | val u=>obtain⟨rfl,F⟩:=h;exact⟨rfl,.val _ F⟩
 | nil sz=>simp only[IH] at h;subst h;exact⟨rfl,.nil _⟩
 | _=>simp[IH] at h
def Wh {obl:O (C OB)}(hT:rc P T)(m:Mem E w S φ (λr=>obl.getD r none)){t self:Nat}{n c:AV}{vn vc:A}{K:AV->W->Prop} (hn:gM S w φ (λr=>obl.getD r none) n vn) (hc:gM S w φ (λr=>obl.getD r none) c vc) (h:ZM T t self n c obl K) : ∃out wr u w',K out wr/\(∀r o,(r,o)∈wr->r<obl.length)/\(Instr.makeSlice t vn vc).run P w=.ok u w'/\s6 E w S φ (λr=>obl.getD r none) out wr u w':=by
 unfold ZM at h;split at h
 ·rename_i e n c hk;rw[Eu,AH,X27,X27] at h;obtain⟨Y,⟨⟨ah,ai⟩,V⟩,⟨b1,b2,b3,b4⟩,z,hz,zs,aj,hK⟩:=h;have a7:0<(T.get e).size:=X29 ai;obtain⟨ak,al⟩:=CV Y;have an:=hT.of (Ax ah);obtain⟨ie,F,ao,ap,aq,ar,au,ax,a8⟩:=an.sV;obtain rfl:=hn.int;obtain rfl:=hc.int
  have aa:=run_make (P:=P) w t e ie F (BA hT hk) ao ar .i64 .i64 n c b1 b2 (by
   rw[aq];have:((T.get e).bytes:Int)*c<=65536*1048576:=Int.mul_le_mul (by omega) b3 (by omega) (by omega)
   omega) (by omega)
  have ab:z.cells=(T.get e).zero.map λx=>match x with
    | .nil sz=>.su sz []
    | x=>x:=by
   rw[<- hz];split
   ·rfl
   rename_i ay;have h1:(T.get e).size=1:=by
    split at V
    ·rename_i hq;exact absurd hq ay
    exact X30 V
   have hl:(T.get e).zero.length=1:=by omega
   obtain⟨x,hx⟩:=List.length_eq_one_iff.1 hl;have ae :∀y∈(T.get e).zero,y.isAgg=false:=by
    intro y hy;obtain⟨j,J,rfl⟩:=Wz hy;have H:j<F.cells.size:=by omega
    exact (QX (S:=S) (w:=w) (a8 j J F.cells[j] (by simp[H]))).1
   rw[hx] at ae⊢;have:=ae x (by simp);cases x<;>first|rfl|simp[D.isAgg] at this
  have af:z.cells.length=(T.get e).size:=by rw[ab];simp[ax]
  have M :∀j (J:j<z.cells.length),∃u,F.cells[j]?=some u/\z.cells[j].isAgg=false/\rH S w z.cells[j] u:=by
   intro j J;have az:j<(T.get e).zero.length:=by rw[af] at J;omega
   have H:j<F.cells.size:=by omega
   have b0:=a8 j az F.cells[j] (by simp[H]);refine⟨F.cells[j],by simp[H],?_⟩
   have e1:z.cells[j]=(match (T.get e).zero[j] with
    | .nil sz=>.su sz []
    | x=>x):=by simp[ab]
   rw[e1];obtain⟨a1,Z⟩:=QX (S:=S) (w:=w) b0;cases hq:(T.get e).zero[j] with
   | nil sz=>rw[hq] at Z;generalize F.cells[j]=u at Z⊢;cases Z;exact⟨rfl,.sB _ _ _⟩
   | val v=>rw[hq] at a1 Z;exact⟨a1,Z⟩
   | agg cs=>rw[hq] at a1;simp[D.isAgg] at a1
   | su sz es=>rw[hq] at a1 Z;exact⟨rfl,Z⟩
  subst aj;have a6 :∀i (Q:i<(Xb6 n.toNat z).length),(Xb6 n.toNat z)[i]=z:=by intro i Q;simp
  refine⟨_,_,_,_,hK,λr o hm=>?_,aa,?_⟩
  ·simp only[X14,X26] at hm;rw[hm.1];exact al
  have s7:(madeCells F.cells (c.toNat*ie.size)).size=c.toNat*(T.get e).size:=by rw[size_madeCells,ap]
  have ba :∀i j,i<n.toNat->j<(T.get e).size->(madeCells F.cells (c.toNat*ie.size))[i*(T.get e).size+j]?=F.cells[j]?:=by
   intro i j Q J;have bb:(i+1)*(T.get e).size<=c.toNat*(T.get e).size:=X31 _ (by omega);rw[X32] at bb;have ag:i*(T.get e).size+j<(madeCells F.cells (c.toNat*ie.size)).size:=by omega
   rw[Array.getElem?_eq_getElem ag];have hm:(i*(T.get e).size+j)%F.cells.size=j:=by rw[au,Xc0,Nat.mul_add_mod,Xbe J]
   have H:j<F.cells.size:=by omega
   simp only[madeCells,Array.getElem_map,Array.getElem_range,hm];simp[H]
  obtain⟨m2,k2⟩:=m.alloc self (c.toNat,0) (.row e (T.get e).size (Xb6 n.toNat z) .no) (madeCells F.cells (c.toNat*ie.size)) e ak (λr hr=>by simp[OB.refs] at hr) (λbc=>by
   refine⟨a7,λi Q=>by rw[a6 i Q];exact af,λi Q j J=>?_,.inr ⟨w.heap.size,(c.toNat,0),madeCells F.cells (c.toNat*ie.size),λi j=>F.cells.getD j Xc3,gL _ _ _,heap_alloc_new w _,by simp;omega,?_,Nat.le_of_eq ((Xan _).trans s7.symm),λi j Q J=>?_,λi Q j J=>?_,λo _ ho=>absurd (m.bS _ _ ho) (Nat.lt_irrefl _),λ_ _ _ _ h=>nomatch h⟩⟩
   ·have:=a6 i Q;simp only[this] at J⊢;exact (M j J).choose_spec.2.1
   ·simp only[Xbl];omega
   ·simp only[X20] at Q;simp only[Xan];rw[ba i j Q J];have H:j<F.cells.size:=by omega
    simp[H]
   have:=a6 i Q;simp only[this] at J⊢;obtain⟨u,q1,q2,q3⟩:=M j J;have:F.cells.getD j Xc3=u:=by simp[q1]
   rw[this]
   exact q3.mono bc.k)
  refine⟨S,_,m2,k2,?_,?_⟩
  ·refine .own self _ _ n.toNat c.toNat (some ⟨w.heap.size,0,none⟩) rfl (by simp) (λe2 bd be f2 U=>?_) (λcs U=>?_)
   ·simp only[Ag,gL,X24,OB.row.injEq] at U;obtain⟨rfl,rfl,rfl,rfl⟩:=U;exact⟨by simp,λ_=>.inr ⟨_,_,gL _ _ _,by simp⟩⟩
   simp[Ag] at U
  intro r hr;simp only[AV.refs,X14] at hr;subst hr;simp[Ag]
 exact h.elim
end
end Go.AX
end
