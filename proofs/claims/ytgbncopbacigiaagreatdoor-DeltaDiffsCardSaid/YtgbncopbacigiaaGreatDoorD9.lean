/-
  Texts of one proof, packed.
-/
import Derived.Test.YtgbncopbacigiaaGreatDoorD8
set_option linter.all false
set_option maxRecDepth 100000
set_option maxHeartbeats 4000000
open List renaming length_map→X10,length_append→X11,mem_singleton→X14,getElem?_eq_some_iff→X16,length_drop→X17,length_take→X18,length_replicate→X20,length_set→X21,mem_append→X23
open Option.some renaming injEq→X24,inj→X25
open Prod.mk renaming injEq→X26
open Bool renaming and_eq_true→X27
open Nat renaming le_of_ble_eq_true→X29,eq_of_beq_eq_true→X30,mul_le_mul_right→X31,add_mul→X32
open Option renaming none→Wy
open Go.Result renaming andThen_ok→Xa1
open Go renaming run_underlying→Xa5,Operand→Xaw,execOp→Xbd,maxLen→Xbl,undef→Xc3,FuncId→Xcx
open Nat renaming beq→Xa6
open Go.Sem renaming run_bind→Xa9
open Go.Builtin renaming zeroCells→Xaf,append_→Xcn
open Go.Value.slice renaming injEq→Xbp
open Go.Value renaming cells→Xdj
section
namespace Go.AX
section
variable {P:Program} {T:TT} {E:Env} {w:B} {S:Sc} {φ:Nat->C (Nat×Rp)} {ob:Nat->C OB}
def Jw {obl:O (C OB)}(m:Mem E w S φ (λr=>obl.getD r none)){u:A}(h:u.oneCell'=true):s6 E w S φ (λr=>obl.getD r none) (.d (.val u)) [] u w:=
 s6.pure m (.d _ _ (.val _ h)) (A1 _ _)
def MB {a:AV}(h:isNil a=true):a=.d (.val (.slice none 0 0)):=by
 unfold isNil at h;split at h
 ·rfl
 simp at h
def Zg {t:Nat}{i:TypeInfo}{z:A}(F:P.info? t=some i)(H:i.zero=some z):(Instr.alloc t true (.tuple #[])).run P w=.ok (.pointer (some ⟨w.heap.size,0,none⟩)) (w.alloc (.cells z.cells t)):=by simp[Instr.alloc,zeroValue,typeInfo,F,H,newVar,newRow]
def KL {obl:O (C OB)}{out:AV}{e sz:Nat}{zs:O D}{frz:FZ}{r:Nat}{u:A}{w':B}{φ':Nat->C (Nat×Rp)} (m:Mem E w' S φ' (rJ (λr=>obl.getD r none) r (some (.row e sz zs frz)))) (k:Kept w S φ (λr=>obl.getD r none) w' S φ' (rJ (λr=>obl.getD r none) r (some (.row e sz zs frz)))) (Q:Hy φ' r zs.length u) (U:out=.own r zs.length):s6 E w S φ (λr=>obl.getD r none) out [(r,.row e sz zs frz)] u w':=by
 subst U;refine⟨S,φ',m,k,?_,λr' F=>?_⟩
 ·have V :∃k c J,u=.slice J k c/\k=zs.length:=by
   rcases Q with ⟨_,K,_,rfl⟩|⟨b,M,_,rfl⟩
   ·exact⟨0,0,_,rfl,K.symm⟩
   exact⟨_,M.1,_,rfl,rfl⟩
  obtain⟨Y,c,J,Z,K⟩:=V;refine .own r _ u Y c J Z K (λe' a1 a6 f' H=>?_) λcs H=>?_
  ·simp only[Ag,gL,X24,OB.row.injEq] at H;obtain⟨rfl,rfl,rfl,rfl⟩:=H;exact⟨Xa8 _,λ_=>Q⟩
  simp[Ag] at H
 simp only[AV.refs,X14] at F;subst F;simp[Ag]
def Bd {a b:Nat}:Xa6 a b=true↔a=b:=⟨X30,λh=>h▸Xd4 a⟩
def VO {obl:O (C OB)}(J:rc P T)(m:Mem E w S φ (λr=>obl.getD r none)){t u ty self:Nat}{x n:AV}{F H:A}{K:AV->W->Prop}(M:gM S w φ (λr=>obl.getD r none) x F)(Q:gM S w φ (λr=>obl.getD r none) n H)(h:eS T t u self x n obl K) :∃out wr v w',K out wr/\(∀r o,(r,o)∈wr->r<obl.length)/\(Xcn #[t,u] ty #[F,H]).run P w=.ok v w'/\s6 E w S φ (λr=>obl.getD r none) out wr v w':=False.elim h
def W6 {obl:O (C OB)}(m:Mem E w S φ (λr=>obl.getD r none)){y:AV}{Z:A}{k sz:Nat}{frz:FZ}{K:FZ->Prop}(hy:gM S w φ (λr=>obl.getD r none) y Z)(h:cQ obl y k sz frz K) : ∃f:FZ,f.frozen=frz.frozen/\K f/\∀i j q n,f=.lk i j q n->obl.getD q none≠none/\∃M,i=k+M/\∀b o l c u,Z=.slice (some ⟨b,o,none⟩) l c->M<l->j<sz->cellAt w b (o+(M*sz+j))=some u->gM S w φ (λr=>obl.getD r none) (.own q n) u:=by
 unfold cQ at h;split at h
 ·exact⟨.sQ,rfl,h,λ_ _ _ _ h=>nomatch h⟩
 rename_i Q;have hf:frz.frozen=false:=by
  cases frz with
  | sQ=>exact absurd rfl Q
  | no=>rfl
  | lk=>rfl
 rw[hf];split at h
 ·rename_i q n;split at h
  ·rename_i e a7 ys i j q' n' U;split at h
   ·rename_i V;have V:=X30 V;subst V;obtain⟨Q,hK⟩:=h;refine⟨_,rfl,hK,λi2 j2 q2 n2 he=>?_⟩;simp only[FZ.lk.injEq] at he;obtain⟨rfl,rfl,rfl,rfl⟩:=he;refine⟨m.tE q _ U _ (by simp[OB.refs]),i,rfl,λb o l c u J hi hj hc=>?_⟩;cases hy with|own _ _ _ k' c' a0 hv a8 h1 aa=>
    obtain⟨_,_,_,g3⟩:=m.obj q _ U;rcases (h1 _ _ _ _ U).2 Q with ⟨Y,a2,a3,F⟩|⟨b1,ab,Y,F⟩
    ·rw[J] at F;simp at F;omega
    rw[J] at F;simp only[Xbp,X24,Addr.mk.injEq] at F;obtain⟨⟨rfl,rfl,_⟩,rfl,rfl⟩:=F;rcases g3 with ⟨H,_⟩|⟨b',a6,vs,f,H,f2,f3,f4,f5,f6,f7,f8⟩
    ·rw[Y] at H;simp at H
    rw[Y] at H;simp only[X24,X26] at H;obtain⟨rfl,rfl⟩:=H;have:=f6 i j (by omega) hj;rw[<- BB f2,hc] at this;rw[X25 this];exact f8.2 i j q' n' rfl (by omega) hj
   exact⟨.no,rfl,h,λ_ _ _ _ h=>nomatch h⟩
  exact⟨.no,rfl,h,λ_ _ _ _ h=>nomatch h⟩
 exact⟨.no,rfl,h,λ_ _ _ _ h=>nomatch h⟩
def Rl {obl:O (C OB)}(hT:rc P T)(m:Mem E w S φ (λr=>obl.getD r none)){st ty self:Nat}{x y:AV}{vx vy:A}{K:AV->W->Prop}(Q:gM S w φ (λr=>obl.getD r none) x vx) (hy:gM S w φ (λr=>obl.getD r none) y vy) (h:O4 T st self x y obl K) : ∃out wr u w',K out wr/\(∀r o,(r,o)∈wr->r<obl.length)/\(Xcn #[st,st] ty #[vx,vy]).run P w=.ok u w'/\s6 E w S φ (λr=>obl.getD r none) out wr u w':=by
 unfold O4 at h;split at h
 ·rename_i e hk;obtain⟨V,ys,h,Z⟩:=Ll m hy h;split at h
  ·rename_i ap;rw[Eu,AH,AH,X27] at h;obtain⟨J,⟨af,ag⟩,M,Y,hK⟩:=h;have s7:=Bd.1 af;have a8:0<(T.get e).size:=X29 ag;subst s7;obtain⟨a1,aa⟩:=CV J;obtain⟨m1,k1⟩:=m.empty self e (T.get e).size a1 a8;cases Q with|d _ _ Q=>
   cases Q with|nil=>
   have ab:uZ S w (T.get e).size ys vy:=Z;obtain⟨u,w',φ',h1,h2,h3,h4⟩:=Jf (ty:=ty) m1 (hT.of (Ax M)) (BA hT hk) (r:=self) (es:=[]) (frz:=.no) (fz':=.no) rfl (gL _ _ _) (.inl ⟨gL _ _ _,rfl,_,rfl⟩) ab (λ_ _ _ _ h=>nomatch h) rfl (by simpa using Y.1) (by simpa using Y.2);rw[Xax,Yh] at h2 h3;rw[Xax] at h4;refine⟨_,_,u,w',hK,λr o hm=>?_,h1,KL h2 (k1.trans h3) h4 rfl⟩;simp only[X14,X26] at hm;rw[hm.1];exact aa
  ·rename_i r n;rw[An] at h;obtain⟨o,ho,h⟩:=h;cases o with
   | box=>simp at h
   | map=>simp at h
   | rK=>simp at h
   | gone=>simp at h
   | row e' sz es frz=>
    simp only[AH,X27] at h;obtain⟨⟨⟨⟨q1,q2⟩,q3⟩,q4⟩,M,hn,Y,zs,a6,hK⟩:=h;obtain⟨fz',ah,hK,ai⟩:=W6 m hy hK;have q1:=Bd.1 q1;have q2:=Bd.1 q2;have q3:=Bd.1 q3;subst q1 q2 a6;cases Q with|own _ _ _ k c a0 hv aj h1 aq=>
    have F:=(h1 _ _ _ _ ho).2 hn;rw[hn] at F;obtain⟨u,w',φ',g1,g2,U,g4⟩:=Jf (ty:=ty) m (hT.of (Ax M)) (BA hT hk) ah ho F Z (λi j q n h=>ai i j q n h) q3.symm Y.1 Y.2;refine⟨_,_,u,w',hK,λr o hm=>?_,g1,KL g2 U g4 rfl⟩;simp only[X14,X26] at hm;rw[hm.1];exact Dz obl _ _ ho
  ·rename_i r a n mm _;rw[An] at h;obtain⟨o,ho,h⟩:=h;cases o with
   | box=>simp at h
   | map=>simp at h
   | rK=>simp at h
   | gone=>simp at h
   | row e' sz es frz=>
    simp only[AH,X27,Eu] at h;obtain⟨⟨⟨⟨⟨q1,q2⟩,q3⟩,q4⟩,q5⟩,M,J,ak,hn,ar,Y,zs,a6,hK⟩:=h;have q1:=Bd.1 q1;have q2:=Bd.1 q2;have q3:=Bd.1 q3;obtain rfl:=FZ.tN q5;subst q1 q2 a6 ak;obtain⟨a1,aa⟩:=CV J;cases Q with|th _ _ _ _ _ k c a0 hv aj h1=>
    obtain⟨_,_,F⟩:=(h1 _ _ _ _ ho).2 hn;have F:=F rfl;have a7:(es.take n).length=n:=by simp;omega
    have hp :∃p:C (Nat×Rp),((p=none/\es.take n=[]) \/∃b c c',φ r=some (b,c)/\p=some (b,(c',c.2+0*V))/\(es.take n).length<=c'/\0+c'<=c.1)/\Hy (rJ (rJ φ r none) self p) self n vx:=by
     rcases F with ⟨f1,f2,a9,f3⟩|⟨b,H,f1,f3⟩
     ·exact⟨none,.inl ⟨rfl,Xab (by omega)⟩,.inl ⟨gL _ _ _,f2,a9,f3⟩⟩
     refine⟨some (b,(H.1,H.2+0*V)),.inr ⟨b,H,H.1,f1,rfl,?_,by omega⟩,.inr ⟨b,(H.1,H.2+0*V),gL _ _ _,by simpa using f3⟩⟩;obtain⟨_,_,_,U⟩:=m.obj r _ ho;rcases U with ⟨U,_⟩|⟨b',ao,vs,g,g1,g2,U,_⟩
     ·rw[f1] at U;simp at U
     grind
    obtain⟨p,al,an⟩:=hp;obtain⟨m1,k1⟩:=m.uJ r self e' V 0 es (es.take n) p ho a1 (by omega) (λi hi=>by simp) al;obtain⟨u,w',φ',g1,g2,U,g4⟩:=Jf (ty:=ty) m1 (hT.of (Ax M)) (BA hT hk) (r:=self) (es:=es.take n) (ys:=ys) (frz:=.no) (fz':=.no) rfl (gL _ _ _) (by rw[a7];exact an) Z (λ_ _ _ _ h=>nomatch h) q3.symm (by rw[a7];exact Y.1) (by rw[a7];exact Y.2);rw[Yh] at g2 U;refine⟨_,_,u,w',hK,λr' o hm=>?_,g1,S,φ',g2,k1.trans U,?_,λr' ae=>?_⟩
    ·grind
    ·have hs :∃k c a0,u=.slice a0 k c/\k=(es.take n++ys).length:=by
      rcases g4 with ⟨_,h2,_,rfl⟩|⟨b,H,_,rfl⟩
      ·exact⟨0,0,_,rfl,h2.symm⟩
      exact⟨_,H.1,_,rfl,rfl⟩
     obtain⟨k',c,a0,e1,e2⟩:=hs;refine .own self _ u k' c a0 e1 e2 (λau ax ay f2 Q=>?_) λcs Q=>?_
     ·simp only[Ag,gL,X24,OB.row.injEq] at Q;obtain⟨rfl,rfl,rfl,rfl⟩:=Q;exact⟨Xa8 _,λ_=>g4⟩
     simp[Ag] at Q
    simp only[AV.refs,X14] at ae;subst ae;simp[Ag]
  exact h.elim
 exact h.elim
def rf.value {o:z}{ρ:Xaw->A}{Q:A->B->Prop}{u:A}{w':B}(h:(Xbd ρ o).run P w=.ok (.value u) w')(F:Q u w'):rf P o ρ w Q:=by unfold rf;rw[h];exact F
def rf.skip {o:z}{ρ:Xaw->A}{Q:A->B->Prop}{w':B}(h:(Xbd ρ o).run P w=.ok .skip w')(F:Q Xc3 w'):rf P o ρ w Q:=by unfold rf;rw[h];exact F
def WE {t e:Nat}{H:TypeInfo}(J:P.underlying t=some (.slice e))(K:P.info? e=some H){a:C Addr}{len cap:Nat}{lo hi' mx:C A}{l h q:Nat} (M:lo=none/\l=0 \/∃k,lo=some (.int k (l:Int))) (Q:hi'=none/\h=len \/∃k,hi'=some (.int k (h:Int))) (U:mx=none/\q=cap\/(∃k,mx=some (.int k (q:Int)))/\hi'≠none) (V:l<=h) (Y:h<=q) (h3:q<=cap) : (Instr.sliceAt t (.slice a len cap) lo hi' mx).run P w=.ok (.slice (if q=l then a else a.map (·.add (l*H.size))) (h-l) (q-l)) w:=by
 unfold Instr.sliceAt;have Z:(Instr.sliceBounds true len cap lo hi' mx).run P w=.ok (l,h,q) w:=by
  unfold Instr.sliceBounds;have B :∀(k:IntKind) (c:BoundsCode) (i y:Nat),i<=y->(Instr.sliceBound (.int k (i:Int)) y c).run P w=.ok i w:=λk c i y a1=>EZ (P:=P) (w:=w) (k:=k) (c:=c) (i:=(i:Int)) (y:=y) ⟨by omega,by omega⟩;rcases U with ⟨rfl,rfl⟩|⟨⟨km,rfl⟩,F⟩<;>rcases M with ⟨rfl,rfl⟩|⟨k,rfl⟩<;>rcases Q with ⟨rfl,rfl⟩|⟨k',rfl⟩
  ·simp
  ·simp[Xa9,B k' _ h q Y]
  ·simp[Xa9,B k _ l h V]
  ·simp_all
  ·exact absurd rfl F
  ·simp_all
  ·exact absurd rfl F
  simp_all
 simp[Xa9,Xa5 J,Instr.slice,Z,sizeOf,typeInfo,K]
def BR (S:Sc)(w:B)(φ:Nat->C (Nat×Rp))(ob:Nat->C OB)(a:C AV)(v:C A):Prop:=(a=none/\v=none) \/∃x y,a=some x/\v=some y/\gM S w φ ob x y
def BR.vD {a:C AV}{v:C A}{F:Int}{K:Int->Prop}(h:BR S w φ ob a v)(H:DF a F K) :∃i,(v=none/\i=F \/∃k,v=some (.int k i))/\K i:=by
 unfold DF at H;split at H
 ·rcases h with ⟨_,h⟩|⟨x,y,h,_⟩
  ·exact⟨F,.inl ⟨h,rfl⟩,H⟩
  simp at h
 ·rcases h with ⟨h,_⟩|⟨x,y,J,M,Q⟩
  ·simp at h
  simp only[X24] at J;subst J;exact⟨_,.inr ⟨_,by rw[M,Q.int]⟩,H⟩
 exact H.elim
def MV {obl:O (C OB)}(hT:rc P T)(m:Mem E w S φ (λr=>obl.getD r none)){t e self r n:Nat}(hk:(T.get t).kind=.slice e){lo hi mx:C AV}{V hi' mx':C A}{vx:A}{K:AV->W->Prop} (ae:BR S w φ (λr=>obl.getD r none) lo V) (af:BR S w φ (λr=>obl.getD r none) hi hi') (ag:BR S w φ (λr=>obl.getD r none) mx mx') (ah:mx'≠none->hi'≠none) (ai:gM S w φ (λr=>obl.getD r none) (.own r n) vx) (h:QV T e self r n lo hi mx obl K) : ∃out wr u,K out wr/\(∀r o,(r,o)∈wr->r<obl.length)/\(Instr.sliceAt t vx V hi' mx').run P w=.ok u w/\s6 E w S φ (λr=>obl.getD r none) out wr u w:=by
 unfold QV at h;rw[Eu,AH,An] at h;obtain⟨Y,aj,ob,Z,h⟩:=h;cases ob with
 | box=>simp at h
 | map=>simp at h
 | rK=>simp at h
 | gone=>simp at h
 | row e' sz es ba=>
  simp only[AH,X27] at h;obtain⟨⟨s7,ak⟩,h⟩:=h;obtain rfl:=FZ.tN ak;have a1:=Bd.1 s7;obtain⟨l,hl,h⟩:=ae.vD h;obtain⟨u,hh,h⟩:=af.vD h;obtain⟨q,hq,⟨c1,c2,c3,c4⟩,hn,M,a6,hK⟩:=ag.vD h;obtain⟨a7,al⟩:=CV Y;obtain⟨ie,z,an,ao,_⟩:=(hT.of (Ax aj)).sV;obtain⟨g0,g1,g2,g3⟩:=m.obj r _ Z;cases ai with|own _ _ _ kk c a0 ap az h1 bb=>
  have Q:=(h1 e' sz es .no Z).2 hn;subst ap;have bc:kk<=c/\kk=es.length:=by
   refine⟨?_,by omega⟩;rcases Q with ⟨_,p2,a9,p3⟩|⟨b,cap,U,p2⟩
   ·simp only[Xbp] at p3;omega
   simp only[Xbp] at p2;obtain⟨_,p3,p4⟩:=p2;rcases g3 with ⟨f1,_⟩|⟨b',b0,vs,f,f1,f2,f3,_⟩
   ·rw[f1] at U;simp at U
   rw[f1] at U;simp only[X24,X26] at U;obtain⟨rfl,rfl⟩:=U;omega
  obtain⟨H,aq,bd,ar,au⟩ :∃H:Nat,(mx'=none/\H=c\/(∃k,mx'=some (.int k (H:Int)))/\hi'≠none)/\True/\u.toNat<=H/\H<=c:=by
   rcases hq with ⟨q1,q2⟩|⟨k,q1⟩
   ·exact⟨c,.inl ⟨q1,rfl⟩,trivial,by omega,Xa8 _⟩
   exact⟨q.toNat,.inr ⟨⟨k,by rw[q1];congr 2;omega⟩,ah (by rw[q1];simp)⟩,trivial,by omega,by omega⟩
  have a8:=WE (P:=P) (w:=w) (BA hT hk) an (a:=a0) (len:=kk) (cap:=c) (lo:=V) (hi':=hi') (mx:=mx') (l:=l.toNat) (h:=u.toNat) (q:=H)
   (hl.imp (λq=>⟨q.1,by omega⟩) λ⟨k,q⟩=>⟨k,by rw[q];congr 2;omega⟩)
   (hh.imp (λq=>⟨q.1,by omega⟩) λ⟨k,q⟩=>⟨k,by rw[q];congr 2;omega⟩) aq (by omega) ar au
  have ax:M.length=u.toNat-l.toNat:=by rw[<- a6];simp;omega
  obtain⟨p,hp,ay⟩ :∃p:C (Nat×Rp),((p=none/\M=[]) \/∃b c0 c',φ r=some (b,c0)/\p=some (b,(c',c0.2+l.toNat*sz))/\M.length<=c'/\l.toNat+c'<=c0.1)/\
    ∀(φ':Nat->C (Nat×Rp)),φ' self=p->Hy φ' self M.length (.slice (if H=l.toNat then a0 else a0.map (·.add (l.toNat*ie.size))) (u.toNat-l.toNat) (H-l.toNat)):=by
   by_cases aa:H=l.toNat
   ·have:M=[]:=Xab (by omega);exact⟨none,.inl ⟨rfl,this⟩,λφ' h'=>.inl ⟨h',by rw[this];rfl,a0,by rw[Xy aa];congr 1<;>omega⟩⟩
   rcases Q with ⟨U,p2,a9,p3⟩|⟨b,cap,U,p2⟩
   ·simp only[Xbp] at p3;omega
   simp only[Xbp] at p2;obtain⟨rfl,p3,rfl⟩:=p2;refine⟨some (b,(H-l.toNat,cap.2+l.toNat*sz)),.inr ⟨b,cap,_,U,rfl,by omega,by omega⟩,λφ' h'=>.inr ⟨b,_,h',?_⟩⟩;rw[Xj aa];simp only[Xbt,Addr.ss,ao,<- a1];congr 1;omega
  obtain⟨m1,k1⟩:=m.uJ r self e' sz l.toNat es M p Z a7 (by omega) (λi hi=>by
   subst a6
   simp) hp
  have be:r≠self:=λhe=>by rw[he] at Z;rw[a7] at Z;simp at Z
  have F:Ag (λr=>obl.getD r none) [(r,.gone),(self,.row e' sz M .no)]=rJ (rJ (λr=>obl.getD r none) r (some .gone)) self (some (.row e' sz M .no)):=rfl;refine⟨_,_,_,hK,λr' o' hm=>?_,a8,⟨S,_,by rw[F];exact m1,by rw[F];exact k1,?_,?_⟩⟩
  ·simp only[Wp,X26,Xbf,Xdm] at hm;rcases hm with ⟨rfl,_⟩|⟨rfl,_⟩
   ·exact Dz obl _ _ Z
   exact al
  ·rw[F];refine .own self _ _ _ _ _ rfl ax.symm (λe2 bf bg f2 J=>?_) λcs J=>by simp at J
   simp only[gL,X24,OB.row.injEq] at J;obtain⟨rfl,rfl,rfl,rfl⟩:=J;exact⟨Xa8 _,λ_=>ay _ (gL _ _ _)⟩
  intro r' ab;simp only[AV.refs,X14] at ab;subst ab;rw[F];simp
def Qk {obl:O (C OB)}{cx:Cx}{o:z}{av:Xaw->AV}{ρ:Xaw->A}{K:AV->W->Prop}{x:Xaw}{args:Array Xaw}{argTypes:Array Nat}{f:Xcx}{F:O AV}{G:O AV->Prop} (H :∀x,gM S w φ (λr=>obl.getD r none) (av x) (ρ x)/\gO (λr=>obl.getD r none) (av x)) (a8:o.op=.call ⟨.value x,args,argTypes⟩) (Y:av x=.fn f F\/(av x=.d (.val (.func (.func f) #[] #[]))/\F=[])) (aa :∀(Z:O AV) (Q:Array A),sA (λa v=>gM S w φ (λr=>obl.getD r none) a v/\gO (λr=>obl.getD r none) a) Z Q.toList->G Z-> ∃ out wr, K out wr ∧ (∀ r o, (r, o) ∈ wr → r < obl.length) ∧ (∃ fn, P.funcs[f]? = some fn ∧ fn.name ≠ "runtime.NumGoroutine" ∧ fn.body.isSome = true) ∧ Calls P f Q w λe w'=>∃v,e=.returned v/\s6 E w S φ (λr=>obl.getD r none) out wr v w') (h:G (F4 cx.T av args.toList argTypes.toList++F)) :∃out wr,K out wr/\(∀r o,(r,o)∈wr->r<obl.length)/\rf P o ρ w (s6 E w S φ (λr=>obl.getD r none) out wr):=by
 have a1 :∀t x,gM S w φ (λr=>obl.getD r Wy) (Gw cx.T t (av x)) (ρ x)/\gO (λr=>obl.getD r Wy) (Gw cx.T t (av x)):=by
  intro t x;unfold Gw;split
  ·rename_i hn;split
   ·have hx:=(H x).1;rw[MB hn] at hx;rw[hx.val];exact⟨.d _ _ (.nil _),A1 _ _⟩
   exact H x
  exact H x
 have U:gM S w φ (λr=>obl.getD r Wy) (.fn f F) (ρ x)/\gO (λr=>obl.getD r Wy) (.fn f F):=by
  rcases Y with Y|⟨Y,rfl⟩
  ·rw[<- Y];exact H x
  have h1:=(H x).1;rw[Y] at h1;rw[h1.val];exact⟨.fn f [] #[] (λ_=>Xc3) rfl (λi M=>by simp at M) (λi M=>by simp at M),λr hr=>by simp[AV.refs,AV.refs.refsL] at hr⟩
 obtain⟨hx,ab⟩:=U;generalize hv:ρ x=vx at hx;cases hx with|fn _ _ vs g hs ae hr=>
 have a6:sA (λa v=>gM S w φ (λr=>obl.getD r Wy) a v/\gO (λr=>obl.getD r Wy) a) (F4 cx.T av args.toList argTypes.toList++F) (args.map ρ++vs).toList:=by
  rw[Array.toList_append,Array.toList_map];have h2 :∀(l:O AV) (k:O A),l.length=k.length->(∀i (M:i<l.length) (V:i<k.length),gM S w φ (λr=>obl.getD r Wy) l[i] k[i]/\gO (λr=>obl.getD r Wy) l[i])->
    sA (λa v=>gM S w φ (λr=>obl.getD r Wy) a v/\gO (λr=>obl.getD r Wy) a) l k:=by
   intro l;induction l with
   | nil=>intro k hk _;cases k with|nil=>exact .nil|cons=>simp at hk
   | cons a l ih=>
    intro k hk hh;cases k with
    | nil=>simp at hk
    | cons b k=>exact .cons (hh 0 (by simp) (by simp)) (ih k (by simpa using hk) λi M V=>hh (i+1) (by simpa using M) (by simpa using V))
  have J:=h2 F vs.toList (by simp[hs]) (λi M V=>by
   have h1:=ae i M;have:vs.toList[i]=g i:=by simp_all
   rw[this]
   exact⟨hr i M,λr af=>ab r (by simpa[AV.refs] using AV.rv F i M r af)⟩)
  have plain :∀l:O Xaw,sA (λa v=>gM S w φ (λr=>obl.getD r Wy) a v/\gO (λr=>obl.getD r Wy) a) (l.map av++F) (l.map ρ++vs.toList):=by
   intro l;induction l with
   | nil=>exact J
   | cons a l ih=>exact .cons ⟨(H a).1,(H a).2⟩ ih
  generalize argTypes.toList=ts;induction args.toList generalizing ts with
  | nil=>exact J
  | cons a l ih=>
   cases ts with
   | nil=>exact plain (a::l)
   | cons t ts=>exact .cons (a1 t a) (ih ts)
 obtain⟨out,wr,g1,g2,⟨fn,g3,g4,g5⟩,g6⟩:=aa _ _ a6 h;refine⟨out,wr,g1,g2,?_⟩;have a7:(Xbd ρ o).run P w=.ok (.enter f (args.map ρ++vs)) w:=by unfold Xbd;rw[a8];simp[resolve,hv,Deferred.ofValue,invoke,callFunc,g3,g4];intro hb;simp[hb] at g5
 unfold rf;rw[a7];exact g6
def U6 {obl:O (C OB)}{cx:Cx}{o:z}{av:Xaw->AV}{ρ:Xaw->A}{x:Xaw}{args:Array Xaw}{argTypes:Array Nat}{f:Xcx}{F:O AV}{Q:A->B->Prop} (H :∀x,gM S w φ (λr=>obl.getD r none) (av x) (ρ x)/\gO (λr=>obl.getD r none) (av x)) (Y:o.op=.call ⟨.value x,args,argTypes⟩) (Z:av x=.fn f F\/(av x=.d (.val (.func (.func f) #[] #[]))/\F=[])) (a8 :∀(J:Array A),sA (λa v=>gM S w φ (λr=>obl.getD r none) a v/\gO (λr=>obl.getD r none) a) (F4 cx.T av args.toList argTypes.toList++F) J.toList-> ((∃ fn, P.funcs[f]? = some fn ∧ fn.name ≠ "runtime.NumGoroutine" ∧ fn.body.isSome = true) ∧ Calls P f J w fun e w' => ∃ v, e = .returned v ∧ Q v w') ∨ ∃ v w', (callFunc f J).run P w = .ok (.value v) w' ∧ Q v w') : rf P o ρ w Q := by
 have a1 :∀t x,gM S w φ (λr=>obl.getD r Wy) (Gw cx.T t (av x)) (ρ x)/\gO (λr=>obl.getD r Wy) (Gw cx.T t (av x)):=by
  intro t x;unfold Gw;split
  ·rename_i hn;split
   ·have hx:=(H x).1;rw[MB hn] at hx;rw[hx.val];exact⟨.d _ _ (.nil _),A1 _ _⟩
   exact H x
  exact H x
 have U:gM S w φ (λr=>obl.getD r Wy) (.fn f F) (ρ x)/\gO (λr=>obl.getD r Wy) (.fn f F):=by
  rcases Z with Z|⟨Z,rfl⟩
  ·rw[<- Z];exact H x
  have h1:=(H x).1;rw[Z] at h1;rw[h1.val];exact⟨.fn f [] #[] (λ_=>Xc3) rfl (λi M=>by simp at M) (λi M=>by simp at M),λr hr=>by simp[AV.refs,AV.refs.refsL] at hr⟩
 obtain⟨hx,aa⟩:=U;generalize hv:ρ x=vx at hx;cases hx with|fn _ _ vs g hs ab hr=>
 have a6:sA (λa v=>gM S w φ (λr=>obl.getD r Wy) a v/\gO (λr=>obl.getD r Wy) a) (F4 cx.T av args.toList argTypes.toList++F) (args.map ρ++vs).toList:=by
  rw[Array.toList_append,Array.toList_map];have h2 :∀(l:O AV) (k:O A),l.length=k.length->(∀i (M:i<l.length) (V:i<k.length),gM S w φ (λr=>obl.getD r Wy) l[i] k[i]/\gO (λr=>obl.getD r Wy) l[i])->
    sA (λa v=>gM S w φ (λr=>obl.getD r Wy) a v/\gO (λr=>obl.getD r Wy) a) l k:=by
   intro l;induction l with
   | nil=>intro k hk _;cases k with|nil=>exact .nil|cons=>simp at hk
   | cons a l ih=>
    intro k hk hh;cases k with
    | nil=>simp at hk
    | cons b k=>exact .cons (hh 0 (by simp) (by simp)) (ih k (by simpa using hk) λi M V=>hh (i+1) (by simpa using M) (by simpa using V))
  have K:=h2 F vs.toList (by simp[hs]) (λi M V=>by
   have h1:=ab i M;have:vs.toList[i]=g i:=by simp_all
   rw[this]
   exact⟨hr i M,λr ae=>aa r (by simpa[AV.refs] using AV.rv F i M r ae)⟩)
  have plain :∀l:O Xaw,sA (λa v=>gM S w φ (λr=>obl.getD r Wy) a v/\gO (λr=>obl.getD r Wy) a) (l.map av++F) (l.map ρ++vs.toList):=by
   intro l;induction l with
   | nil=>exact K
   | cons a l ih=>exact .cons ⟨(H a).1,(H a).2⟩ ih
  generalize argTypes.toList=ts;induction args.toList generalizing ts with
  | nil=>exact K
  | cons a l ih=>
   cases ts with
   | nil=>exact plain (a::l)
   | cons t ts=>exact .cons (a1 t a) (ih ts)
 rcases a8 _ a6 with ⟨⟨fn,g3,g4,g5⟩,g6⟩|⟨v,w',h1,h2⟩;rotate_left
 ·refine rf.value (u:=v) (w':=w') ?_ h2;unfold Xbd;rw[Y];simp[resolve,hv,Deferred.ofValue,invoke,h1]
 have a7:(Xbd ρ o).run P w=.ok (.enter f (args.map ρ++vs)) w:=by unfold Xbd;rw[Y];simp[resolve,hv,Deferred.ofValue,invoke,callFunc,g3,g4];intro hb;simp[hb] at g5
 unfold rf;rw[a7];exact g6
def G3 {obl:O (C OB)}(hT:rc P T)(m:Mem E w S φ (λr=>obl.getD r none)){t r n i k:Nat}{a x:AV}{va vx:A}{K:AV->W->Prop}(a7:a=.sh r n i k) (ha:gM S w φ (λr=>obl.getD r none) a va) (hx:gM S w φ (λr=>obl.getD r none) x vx) (h:GO T t r n i k x obl K) : ∃out wr w',K out wr/\(∀r o,(r,o)∈wr->r<obl.length)/\(Instr.storeAt t va vx).run P w=.ok () w'/\s6 E w S φ (λr=>obl.getD r none) out wr Xc3 w':=by
 unfold GO at h;rw[AH] at h;obtain⟨H,h⟩:=h;have H:=Ax H;obtain⟨M,wr,S',F,m',k',a8,ah,aa⟩:=D8 m (rl.refl _) hx h;rw[AH,An] at F;obtain⟨Q,q,hq,F⟩:=F;have U:Ag (λr=>obl.getD r none) wr r=some q:=by
  rw[EG wr _ r λq hq e=>by
   simp only[Wo] at Q;have:=Q q hq;rw[e] at this
   simp[Xd4] at this]
  exact hq
 cases q with
 | box=>simp at F
 | map=>simp at F
 | rK=>simp at F
 | gone=>simp at F
 | row e sz V ai=>
  simp only at F;obtain⟨hn,hf,h⟩:=F;obtain rfl:=FZ.tN hf;rw[AH] at h;obtain⟨s7,y,hy,h⟩:=h;unfold IR at h;rw[FY,HH] at h;obtain⟨Y,h⟩:=h;have ab:=a8.norm;have Z:=Bd.1 s7;rw[a7] at ha;cases ha with|sh _ _ _ _ _ h1 hb hp=>
  obtain⟨_,h2⟩:=h1 _ _ _ _ hq;obtain⟨hi,b,c,ae,hv⟩:=h2 hn;have J:i<V.length:=by omega
  have a1:y=V[i]:=by rw[<- hy];simp[J]
  obtain⟨_,g1,_,_⟩:=m'.obj r _ U;have af:y.cells.take k++M.norm.cells++y.cells.drop (k+M.norm.cells.length)=BG V[i].cells k M.norm.cells:=by rw[a1];rfl
  rw[af] at h;have a6:k+M.norm.cells.length<=sz:=by rw[a1,g1 i J] at Y;exact Y
  have fin :∀(z:D),z.cells=BG V[i].cells k M.norm.cells->K .dead (wr++[(r,.row e sz (V.set i z) .no)])->∃out wr w',K out wr/\(∀r o,(r,o)∈wr->r<obl.length)/\(Instr.storeAt t va vx).run P w=.ok () w'/\s6 E w S φ (λr=>obl.getD r none) out wr Xc3 w':=by
   intro z hz F;obtain⟨w',q1,S2,ag,q2,q3,q4,q5⟩:=JR (P:=P) m' ae U rfl (fz':=.no) rfl (t:=t) (v:=vx) (by rw[(hT.of H).uj,D.tf,Z]) (λ_ _ _ _ h=>nomatch h) ab J a6 hz;refine⟨_,_,w',F,λr' o' hm=>?_,by rw[hv];exact q1,S2,ag,by rw[AU];exact q2,by rw[AU];exact k'.trans q3,by rw[AU];exact q4,by rw[AU];exact q5⟩;rcases X23.1 hm with hm|hm
   ·obtain⟨e',aj,ak,f',p1,_⟩:=aa r' o' hm;exact Dz obl r' _ p1
   grind
  split at h
  ·obtain⟨_,rfl,h⟩:=h;exact fin _ rfl h
  split at h
  ·rename_i z hz;rw[AH] at h;obtain⟨h0,_,rfl,h⟩:=h;refine fin z ?_ h;rw[hz];exact D.tw (by simpa using h0)
  exact h.elim
def IT {obl:O (C OB)}(U:rc P T)(m:Mem E w S φ (λr=>obl.getD r none)){t r n i k F H:Nat}{J M:A}{K:AV->W->Prop}(V:gM S w φ (λr=>obl.getD r none) (.sh r n i k) J)(Y:gM S w φ (λr=>obl.getD r none) (.own F H) M)(Q:gO (λr=>obl.getD r none) (.own F H))(h:Ha T t r n i k F H obl K) :∃out wr w',K out wr/\(∀r o,(r,o)∈wr->r<obl.length)/\(Instr.storeAt t J M).run P w=.ok () w'/\s6 E w S φ (λr=>obl.getD r none) out wr Xc3 w':=False.elim h
def E9 {obl:O (C OB)}{cx:Cx}(hT:rc P cx.T)(hC:Oi E.wl P cx)(m:Mem E w S φ (λr=>obl.getD r none)){o:Oper}{av:Xaw->AV}{ρ:Xaw->A}{K:AV->W->Prop} (H :∀x,gM S w φ (λr=>obl.getD r none) (av x) (ρ x)/\gO (λr=>obl.getD r none) (av x)) (h:sk cx o av obl K) : ∃out wr,K out wr/\(∀r o,(r,o)∈wr->r<obl.length)/\rf P o ρ w (s6 E w S φ (λr=>obl.getD r none) out wr):=by
 have none :∀r o,(r,o)∈([]:W)->r<obl.length:=λ_ _ hm=>by simp at hm
 have a6 :∀{s:Sem A} {K:AV->Prop},FM K (s.run P w) w->(Xbd ρ o=(do pure (.value (← s))))->∃out,K out/\rf P o ρ w (s6 E w S φ (λr=>obl.getD r Wy) out []):=by rintro s K ⟨u,J,M,h3⟩ he;refine⟨_,M,rf.value (u:=u) (w':=w) ?_ (Jw m J)⟩;rw[he,Xa9,h3,Xa1];rfl
 have V :∀{s:Sem A} {out:AV} {u:A},s.run P w=.ok u w->gM S w φ (λr=>obl.getD r Wy) out u->gO (λr=>obl.getD r Wy) out->(Xbd ρ o=(do pure (.value (← s))))->
   rf P o ρ w (s6 E w S φ (λr=>obl.getD r Wy) out []):=by
  intro s out u J M h3 he;refine rf.value (u:=u) (w':=w) ?_ (s6.pure m M h3);rw[he,Xa9,J,Xa1];rfl
 have ap :∀(ps:Array (Nat×Xaw)),JB S w φ (λr=>obl.getD r Wy) (ps.toList.map λ(i,x)=>(i,av x)) (ps.map λ(i,x)=>(i,ρ x)).toList:=by
  intro ps;rw[Array.toList_map];induction ps.toList with
  | nil=>exact .nil
  | cons p l ih=>exact .cons ⟨rfl,(H p.2).1,(H p.2).2⟩ ih
 have Y :∀t x,gM S w φ (λr=>obl.getD r Wy) (Gw cx.T t (av x)) (ρ x)/\gO (λr=>obl.getD r Wy) (Gw cx.T t (av x)):=by
  intro t x;unfold Gw;split
  ·rename_i hn;split
   ·have hx:=(H x).1;rw[MB hn] at hx;rw[hx.val];exact⟨.d _ _ (.nil _),A1 _ _⟩
   exact H x
  exact H x
 have mv :∀x,(Xbd ρ o).run P w=.ok (.value (ρ x)) w->(match x with
   | .const v=>WP cx.T o.type (cx.np+o.dst.getD 0) (av (.const v)) obl K
   | x=>(av x).force λv=>K v [])->∃out wr,K out wr/\(∀r o,(r,o)∈wr->r<obl.length)/\rf P o ρ w (s6 E w S φ (λr=>obl.getD r Wy) out wr):=by
  intro x hm h;split at h
  ·rename_i cv;unfold WP at h;split at h
   ·rename_i hn;have bg:=(H (.const cv)).1;rw[MB hn] at bg;have bi:=bg.val;split at h
    ·rename_i e Z;split at h
     ·rename_i hs;rw[AH] at h;obtain⟨bj,hK⟩:=h;obtain⟨aj,ax⟩:=CV hs;obtain⟨m1,k1⟩:=m.empty (cx.np+o.dst.getD 0) e (cx.T.get e).size aj (X29 bj);refine⟨_,_,hK,λr o hm=>?_,rf.value hm ?_⟩
      ·simp_all
      exact KL (zs:=[]) m1 k1 (.inl ⟨gL _ _ _,rfl,_,bi⟩) rfl
     refine⟨_,_,h,none,rf.value hm (s6.pure m ?_ (A1 _ _))⟩;rw[bi];exact .d _ _ (.nil _)
    exact h.elim
   rw[BH] at h;exact⟨_,_,h,none,rf.value hm (s6.pure m (H _).1 (H _).2)⟩
  rw[BH] at h;exact⟨_,_,h,none,rf.value hm (s6.pure m (H x).1 (H x).2)⟩
 obtain⟨dst,op,af,aq,after,guard⟩:=o;cases op;case move x=>exact mv x rfl h
 case assign x=>exact mv x rfl h
 case pick c a b=>
  simp only[sk] at h;unfold dn at h;split at h
  ·rename_i t c4;have hc:=(H c).1;rw[c4] at hc;have c5:=hc.bool;have hm:(Xbd ρ ⟨dst,.pick c a b,af,aq,after,guard⟩).run P w=.ok (.value (if t then ρ a else ρ b)) w:=by simp[Xbd,c5,asBool]
   split at h
   ·rename_i x y ha hb;have bk:=(H a).1;rw[ha] at bk;have bl:=(H b).1;rw[hb] at bl;refine⟨_,_,h,none,rf.value hm ?_⟩;rw[bk.bool,bl.bool];have:(if t=true then Value.bool x else Value.bool y)=.bool (cond t x y):=by cases t<;>rfl
    rw[this];exact Jw m rfl
   cases t with
   | true=>simp only[BH] at h;exact⟨_,_,h,none,rf.value hm (s6.pure m (by simpa using (H a).1) (H a).2)⟩
   | false=>simp only[BH] at h;exact⟨_,_,h,none,rf.value hm (s6.pure m (by simpa using (H b).1) (H b).2)⟩
  exact h.elim
 case alloc t=>
  simp only[sk] at h;rw[AH,Eu] at h;obtain⟨ag,hs,hK⟩:=h;obtain⟨aj,ax⟩:=CV hs;have ay:=hT.of (Ax ag);obtain⟨i,z,hi,_,_,hz,_⟩:=ay.sV;obtain⟨⟨z1,z2⟩,z3⟩:=N5 (S:=S) (w:=w) (φ:=φ) (ob:=λr=>obl.getD r Wy) hT (Ax ag) hi hz;refine⟨_,_,hK,λr o hm=>?_,rf.value (u:=.pointer (some ⟨w.heap.size,0,Wy⟩)) (w':=w.alloc (.cells z.cells t)) ?_ (Rx m t aj z1 z2 z3)⟩
  ·simp_all
  simp[Xbd,Zg hi hz]
 case box t x=>
  simp only[sk] at h;rw[Eu] at h;obtain⟨hs,h⟩:=h;rw[GU] at h;obtain⟨l,hl,h⟩:=h;rw[AH] at h;obtain⟨aj,ax⟩:=CV hs;obtain⟨r1,r2⟩:=OD (H x).1 hl;refine⟨_,_,h.2,λr o hm=>?_,rf.value (u:=.pointer (some ⟨w.heap.size,0,Wy⟩)) (w':=w.alloc (.cells (ρ x).cells t)) ?_ (Rx m t aj r1 r2 (JF (H x).2 hl))⟩
  ·simp_all
  simp[Xbd,Instr.box,newVar,newRow]
 case build t ps=>simp only[sk] at h;obtain⟨out,u,J,M,h3,h4⟩:=Ti hT (ap ps) h;exact⟨out,[],J,none,V M h3 h4 rfl⟩
 case buildSlice t len ps=>simp only[sk] at h;obtain⟨out,wr,u,w',J,M,h3,h4⟩:=MR hT m (ap ps) h;refine⟨out,wr,J,M,rf.value (u:=u) (w':=w') ?_ h4⟩;simp[Xbd,h3]
 case load t x=>simp only[sk] at h;obtain⟨out,u,J,M,h3,h4⟩:=U1 hT m (H x).1 (H x).2 (hC.1▸h);exact⟨out,[],J,none,V M h3 h4 rfl⟩
 case store t a x=>
  simp only[sk] at h;rcases Tf h with ⟨r,n,i,k,q,mm,Q,bc,h⟩|⟨r,n,i,k,cs,Q,bc,h⟩|⟨h,_⟩;rotate_left
  ·have hx:=Y t x;rw[bc] at hx;obtain⟨out,wr,w',J,M,h3,h4⟩:=G3 (P:=P) hT m Q (H a).1 hx.1 h;refine⟨out,wr,J,M,rf.skip (w':=w') ?_ h4⟩;simp[Xbd,h3]
  rotate_left
  ·have hx:=Y t x;rw[bc] at hx;have ha:=(H a).1;rw[Q] at ha;obtain⟨out,wr,w',J,M,h3,h4⟩:=IT (P:=P) hT m ha hx.1 hx.2 h;refine⟨out,wr,J,M,rf.skip (w':=w') ?_ h4⟩;simp[Xbd,h3]
  unfold Qv at h;rw[AH] at h;obtain⟨ag,h⟩:=h;have ag:=Ax ag;split at h
  ·rename_i r be Q;rw[An] at h;obtain⟨q,hq,h⟩:=h;cases q with
   | row=>simp at h
   | map=>simp at h
   | rK=>simp at h
   | gone=>simp at h
   | box cs=>
    simp only[GU,AH,HH] at h;obtain⟨l,hl,s7,az,hK⟩:=h;obtain⟨r1,r2⟩:=OD (Y t x).1 hl;have ha:=(H a).1;rw[Q] at ha;obtain⟨b,c,ak,hv⟩:=ha.vV;have c6:=JF (Y t x).2 hl;obtain⟨w',g1,g2⟩:=Oq m ak hq (t:=t) (by rw[(hT.of ag).uj,Bd.1 s7]) r1 r2 c6 az;refine⟨_,_,hK,λr' o hm=>?_,rf.skip (w':=w') ?_ g2⟩
    ·grind
    simp[Xbd,hv,g1]
  ·rename_i r n i k Q;rw[An] at h;obtain⟨q,hq,h⟩:=h;cases q with
   | box=>simp at h
   | map=>simp at h
   | rK=>simp at h
   | gone=>simp at h
   | row e sz es b0=>
    simp only at h;obtain⟨hn,hf,h⟩:=h;obtain rfl:=FZ.tN hf;split at h
    ·rename_i xd c7;rw[AH] at h;obtain⟨s7,y,hy,h⟩:=h;unfold IR at h;rw[FY,HH] at h;obtain⟨az,h⟩:=h;have hx:=(Y t x).1;rw[c7] at hx;cases hx with|d _ _ hx=>
     have c8:=hx.norm;have ha:=(H a).1;rw[Q] at ha;have bm:=Bd.1 s7;cases ha with|sh _ _ _ _ _ J hb hp=>
     obtain⟨_,M⟩:=J _ _ _ _ hq;obtain⟨hi,b,c,ak,hv⟩:=M hn;have hi':i<es.length:=by omega
     have bo:y=es[i]:=by rw[<- hy];simp[hi']
     obtain⟨_,g1,_,_⟩:=m.obj r _ hq;have c9:y.cells.take k++xd.norm.cells++y.cells.drop (k+xd.norm.cells.length)=BG es[i].cells k xd.norm.cells:=by rw[bo];rfl
     rw[c9] at h;have bp:k+xd.norm.cells.length<=sz:=by rw[bo,g1 i hi'] at az;exact az
     have fin :∀(z:D),z.cells=BG es[i].cells k xd.norm.cells->K .dead [(r,.row e sz (es.set i z) .no)]->∃out wr,K out wr/\(∀r o,(r,o)∈wr->r<obl.length)/\rf P ⟨dst,.store t a x,af,aq,after,guard⟩ ρ w (s6 E w S φ (λr=>obl.getD r Wy) out wr):=by
      intro z hz hK;obtain⟨w',q1,q2⟩:=JR m ak hq rfl (fz':=.no) rfl (t:=t) (v:=ρ x) (by rw[(hT.of ag).uj,D.tf,bm]) (λ_ _ _ _ h=>nomatch h) c8 hi' bp hz;refine⟨_,_,hK,λr' o hm=>?_,rf.skip (w':=w') ?_ q2⟩
      ·grind
      simp[Xbd,hv,q1]
     split at h
     ·obtain⟨_,rfl,h⟩:=h;exact fin _ rfl h
     split at h
     ·rename_i z hz;rw[AH] at h;obtain⟨h0,_,rfl,h⟩:=h;refine fin z ?_ h;rw[hz];exact D.tw (by simpa using h0)
     exact h.elim
    exact h.elim
  exact h.elim
 case nilCheck x=>
  simp only[sk] at h;have hx:=(H x).1;have hc:=(H x).2;have go :∀(hK:K (av x) []) (hm:(Xbd ρ ⟨dst,.nilCheck x,af,aq,after,guard⟩).run P w=.ok (.value (ρ x)) w),∃out wr,K out wr/\(∀r o,(r,o)∈wr->r<obl.length)/\rf P ⟨dst,.nilCheck x,af,aq,after,guard⟩ ρ w (s6 E w S φ (λr=>obl.getD r Wy) out wr):=
   λhK hm=>⟨_,_,hK,none,rf.value hm (s6.pure m hx hc)⟩
  split at h
  ·rename_i r be Q;refine go (Q▸h) ?_;rw[Q] at hx;obtain⟨b,c,_,hv⟩:=hx.vV;dsimp only[Xbd];rw[hv];rfl
  ·rename_i cs Q;refine go (Q▸h) ?_;rw[Q] at hx;generalize hv:ρ x=vx at hx;cases hx with|sT=>
   dsimp only[Xbd];rw[hv];rfl
  ·rename_i r n i k Q;refine go (Q▸h) ?_;rw[Q] at hx;generalize hv:ρ x=vx at hx;cases hx with|sh _ _ _ _ _ _ _ hp=>
   obtain⟨a,hp⟩:=hp;dsimp only[Xbd];rw[hv,hp];rfl
  ·rename_i f a7 Q;refine go (Q▸h) ?_;rw[Q] at hx;generalize hv:ρ x=vx at hx;cases hx with|fn=>
   dsimp only[Xbd];rw[hv];rfl
  ·rename_i g p q Q;refine go (Q▸h) ?_;rw[Q] at hx;have hv:=hx.val;dsimp only[Xbd];rw[hv];rfl
  exact h.elim
 case binOp op t x y ty=>simp only[sk] at h;obtain⟨out,J,M⟩:=a6 (Xx (ox:=x) (oy:=y) hT (H x).1 (H y).1 h) rfl;exact⟨out,[],J,none,M⟩
 case unOp op t x=>simp only[sk] at h;obtain⟨out,J,M⟩:=a6 (Zi (H x).1 h) rfl;exact⟨out,[],J,none,M⟩
 case convert src dst x=>simp only[sk] at h;obtain⟨out,J,M⟩:=a6 (V0 hT m (H x).1 h) rfl;exact⟨out,[],J,none,M⟩
 case fieldAddr t x i=>
  simp only[sk] at h;obtain⟨be,s,ft,fs,h,al,hi,hs⟩:=PQ hT h;have hx:=(H x).1;have hc:=(H x).2;split at h
  ·rename_i r o' Q;rw[Q] at hx hc;generalize hv:ρ x=vx at hx;cases hx with|ref _ _ b c ak hb=>
   refine⟨_,_,h,none,V (J2 al hi hs b o') (.ref r _ b c ak hb) (λr' ah=>hc r' (by simpa[AV.refs] using ah)) ?_⟩;dsimp only[Xbd];rw[hv]
  ·rename_i cs Q;rw[Q] at hx;simp only[GR,FT] at h;generalize hv:ρ x=vx at hx;cases hx with|sT _ b o' f hS hn hr=>
   refine⟨_,_,h,none,V (J2 al hi hs b o') ?_ (λr' ah=>by simp[AV.refs] at ah) ?_⟩
   ·refine .sT _ b _ (λj=>f (be+j)) (λj hj=>?_) (λj hj=>?_) λj hj=>?_
    ·simp only[X18,X17] at hj;rw[Xb9];exact hS _ (by omega)
    ·simp only[Xbg,Xbh];exact hn _ _
    simp only[Xbg,Xbh];exact hr _ _
   dsimp only[Xbd];rw[hv]
  ·rename_i r n j k Q;rw[Q] at hx hc;generalize hv:ρ x=vx at hx;cases hx with|sh _ _ _ _ _ J hb hp=>
   obtain⟨⟨ab,ao,cu⟩,hp⟩:=hp;subst hp;rw[An] at h;obtain⟨q,hq,h⟩:=h;cases q with
   | box cs=>simp at h
   | map=>simp at h
   | rK=>simp at h
   | gone=>simp at h
   | row e sz es b0=>
    simp only at h;obtain⟨hn,h⟩:=h;obtain⟨_,M⟩:=J e sz es b0 hq;obtain⟨hj,b,c,ak,bq⟩:=M hn;simp only[Value.pointer.injEq,X24,Addr.mk.injEq] at bq;obtain⟨rfl,rfl,rfl⟩:=bq;refine⟨_,_,h,none,V (J2 al hi hs ab (c.2+(j*sz+k))) (.sh r n j _ _ (λe2 ca cb f2 ai=>?_) (λcs ai=>by rw[hq] at ai;simp at ai) ⟨_,rfl⟩) (λr' ah=>hc r' (by simpa[AV.refs] using ah)) ?_⟩
    ·rw[hq] at ai;simp only[X24,OB.row.injEq] at ai;obtain⟨rfl,rfl,rfl,rfl⟩:=ai;exact⟨by omega,λ_=>⟨hj,ab,c,ak,by rw[Xb9,Xb9]⟩⟩
    dsimp only[Xbd];rw[hv]
  exact h.elim
 case field t x i=>simp only[sk] at h;obtain⟨out,u,J,M,h3,h4⟩:=UD hT (H x).1 (H x).2 h;exact⟨out,[],J,none,V M h3 h4 rfl⟩
 case indexAddr t x y=>simp only[sk] at h;obtain⟨out,u,J,M,h3,h4⟩:=N9 hT (H x).1 (H x).2 (H y).1 h;exact⟨out,[],J,none,V M h3 h4 rfl⟩
 case index t x y=>simp only[sk] at h;obtain⟨out,u,J,M,h3,h4⟩:=UR hT (H x).1 (H x).2 (H y).1 h;exact⟨out,[],J,none,V M h3 h4 rfl⟩
 case makeMap t r=>
  cases r with
  | some=>exact h.elim
  | none=>
   simp only[sk] at h;split at h
   ·rename_i k e Z;rw[Eu] at h;obtain⟨bf,hK⟩:=h;obtain⟨aj,ax⟩:=CV bf;obtain⟨w',J,M⟩:=RU (P:=P) (t:=t) (k:=k) (e:=e) m aj;refine⟨_,_,hK,λr o hm=>?_,rf.value (w':=w') ?_ M⟩
    ·simp only[X14,X26] at hm;rw[hm.1];exact ax
    simp[Xbd,J]
   exact h.elim
 case lookup t x y ok=>simp only[sk] at h;obtain⟨out,u,J,M,h3,h4⟩:=Vu hT m (H x).1 (H y).1 (hC.1▸h);exact⟨out,[],J,none,V M h3 h4 rfl⟩
 case mapUpdate t mm k v=>simp only[sk] at h;obtain⟨out,wr,w',J,M,h3,h4⟩:=K3 hT m (H mm).1 (H k).1 (H v).1 (H v).2 h;refine⟨out,wr,J,M,rf.skip (w':=w') ?_ h4⟩;simp[Xbd,h3]
 case insert t mm k v=>simp only[sk] at h;obtain⟨out,wr,w',J,M,h3,h4⟩:=K3 hT m (H mm).1 (H k).1 (H v).1 (H v).2 h;refine⟨out,wr,J,M,rf.skip (w':=w') ?_ h4⟩;simp[Xbd,h3]
 case slice t x lo hi mx=>
  cases mx with
  | none=>
   simp only[sk] at h;have bd :∀(q:C Xaw) (i:Int),(∃k,q.map av=some (.d (.val (.int k i))))->∃k,q.map ρ=some (.int k i):=by
    rintro q i ⟨k,Z⟩;cases q with
    | none=>simp at Z
    | some y=>simp only[Xbt,X24] at Z;have hy:=(H y).1;rw[Z] at hy;exact⟨k,by simp only[Xbt,hy.int]⟩
   have bn :∀(q:C Xaw),q.map av=Wy->q.map ρ=Wy:=by
    intro q hq;cases q with
    | none=>rfl
    | some y=>simp at hq
   have hb :∀(o:C AV) (a8:Int) (K:Int->Prop),DF o a8 K->∃i,(o=Wy/\i=a8 \/∃k,o=some (.d (.val (.int k i))))/\K i:=by
    intro o a8 K Z;unfold DF at Z;split at Z
    ·exact⟨a8,.inl ⟨rfl,rfl⟩,Z⟩
    ·exact⟨_,.inr ⟨_,rfl⟩,Z⟩
    exact Z.elim
   have F :∀{e:Nat} {xa:AV},(cx.T.get t).kind=.slice e->gM S w φ (λr=>obl.getD r Wy) xa (ρ x)->NT cx.T e xa (lo.map av) (hi.map av) obl K->
     ∃out wr,K out wr/\(∀r o,(r,o)∈wr->r<obl.length)/\rf P ⟨dst,.slice t x lo hi Wy,af,aq,after,guard⟩ ρ w (s6 E w S φ (λr=>obl.getD r Wy) out wr):=by
    intro e xa Z a1 h;unfold NT at h;rw[AH] at h;obtain⟨ag,h⟩:=h;obtain⟨d,wr,S',hK,m',k',hd,cy,cc⟩:=D8 m (rl.refl _) a1 h;obtain⟨es,l,u,rfl,hl,hh,c1,c2,c3,hK⟩:=XD hK;obtain⟨a,n,cap,hv⟩ :∃a n cap,ρ x=.slice a n cap:=by generalize ρ x=v at hd;cases hd<;>exact⟨_,_,_,rfl⟩
    rw[hv] at hd;obtain⟨e1,e2,hr⟩:=hd.part (l:=l.toNat) (h:=u.toNat) (by omega) (by omega);obtain⟨ie,z,ar,ba,_⟩:=(hT.of (Ax ag)).sV;have aa:=HW (P:=P) (w:=w) (BA hT Z) ar (a:=a) (len:=n) (cap:=cap) (lo:=lo.map ρ) (hi':=hi.map ρ) (l:=l.toNat) (h:=u.toNat)
     (hl.imp (λq=>⟨bn _ q.1,by omega⟩) λq=>by
      obtain⟨k,Z⟩:=bd _ _ q
      exact⟨k,by rw[Z];congr 2;omega⟩)
     (hh.imp (λq=>⟨bn _ q.1,by omega⟩) λq=>by
      obtain⟨k,Z⟩:=bd _ _ q
      exact⟨k,by rw[Z];congr 2;omega⟩) (by omega) (by omega) e2
    refine⟨_,wr,hK,λr o hm=>?_,rf.value (u:=.slice (if cap=l.toNat then a else a.map (·.add (l.toNat*ie.size))) (u.toNat-l.toNat) (cap-l.toNat)) (w':=w) ?_ ⟨S',φ,m',k',.d _ _ ?_,A1 _ _⟩⟩
    ·obtain⟨e',cz,da,f',q1,_⟩:=cc r o hm;exact Dz obl r _ q1
    ·simp[Xbd,hv,aa]
    rw[ba];exact hr
   unfold XG at h;split at h
   ·rename_i e Z;split at h
    ·rename_i r n an;have a1:=(Y t x).1;have bu:=(Y t x).2;rw[an] at a1 bu;rcases h with h|h|h
     ·exact F Z a1 h
     ·
      unfold Xg at h;rw[AH,An] at h;obtain⟨ag,ob,ho,h⟩:=h;cases ob with
      | box=>simp at h
      | map=>simp at h
      | rK=>simp at h
      | gone=>simp at h
      | row e' sz es b0=>
       simp only[AH] at h;obtain⟨s7,h⟩:=h;have bw:=Bd.1 s7;obtain⟨l,hl,h⟩:=hb _ _ _ h;obtain⟨u,hh,⟨c1,c2,c3⟩,hn,a,k,ha,bx,hK⟩:=hb _ _ _ h;obtain⟨ie,z,ar,ba,_⟩:=(hT.of (Ax ag)).sV;obtain⟨g0,g1,g2,g3⟩:=m.obj r _ ho;generalize hv:ρ x=vx at a1;cases a1 with|own _ _ _ kk c a0 cd cp J db=>
       have au:=(J e' sz es b0 ho).2 hn;subst cd;have dc:kk<=c/\kk=es.length:=by
        refine⟨?_,by omega⟩;rcases au with ⟨_,p2,a9,p3⟩|⟨b,cap,p1,p2⟩
        ·simp only[Xbp] at p3;omega
        simp only[Xbp] at p2;obtain⟨_,p3,p4⟩:=p2;rcases g3 with ⟨f1,_⟩|⟨b',cq,vs,f,f1,f2,f3,_⟩
        ·rw[f1] at p1;simp at p1
        rw[f1] at p1;simp only[X24,X26] at p1;obtain⟨rfl,rfl⟩:=p1;omega
       have aa:=HW (P:=P) (w:=w) (BA hT Z) ar (a:=a0) (len:=kk) (cap:=c) (lo:=lo.map ρ) (hi':=hi.map ρ) (l:=l.toNat) (h:=u.toNat)
        (hl.imp (λq=>⟨bn _ q.1,by omega⟩) λq=>by
         obtain⟨k,Z⟩:=bd _ _ q
         exact⟨k,by rw[Z];congr 2;omega⟩)
        (hh.imp (λq=>⟨bn _ q.1,by omega⟩) λq=>by
         obtain⟨k,Z⟩:=bd _ _ q
         exact⟨k,by rw[Z];congr 2;omega⟩) (by omega) (by omega) (by omega)
       refine⟨_,_,hK,none,rf.value (u:=.slice (if c=l.toNat then a0 else a0.map (·.add (l.toNat*ie.size))) (u.toNat-l.toNat) (c-l.toNat)) (w':=w) ?_ (s6.pure m (.th r a k n _ _ _ _ rfl bx λe2 ca cb f2 ai=>?_) λr' ah=>bu r' (by simpa[AV.refs] using ah))⟩
       ·simp[Xbd,hv,aa]
       rw[ho] at ai;simp only[X24,OB.row.injEq] at ai;obtain⟨rfl,rfl,rfl,rfl⟩:=ai;refine⟨by omega,λ_=>⟨by omega,?_,λde=>?_⟩⟩;rotate_left
       ·have bz:l.toNat=0:=by omega
        rcases au with ⟨p1,p2,a9,p3⟩|⟨b,cap,p1,p2⟩
        ·simp only[Xbp] at p3;obtain⟨_,_,p4⟩:=p3;refine .inl ⟨p1,by omega,a0,?_⟩;rw[bz,p4];simp;omega
        simp only[Xbp] at p2;obtain⟨rfl,p3,rfl⟩:=p2;refine .inr ⟨b,cap,p1,?_⟩;rw[bz];simp only[Nat.sub_zero,Nat.zero_mul,Xbp];refine⟨?_,by omega,by first|rfl|trivial⟩;split
        ·rfl
        simp[Addr.add]
       by_cases cf:k=0
       ·exact .inl cf
       right;rcases au with ⟨_,p2,a9,p3⟩|⟨b,cap,p1,p2⟩
       ·omega
       simp only[Xbp] at p2;obtain⟨rfl,p3,rfl⟩:=p2;refine⟨b,cap,cap.1-l.toNat,p1,?_,by omega⟩;rw[Xj (by omega),bx];simp only[Xbt,Addr.ss,ba,<- bw,ha]
     ·
      have br :∀(q:C Xaw),BR S w φ (λr=>obl.getD r Wy) (q.map av) (q.map ρ):=by
       intro q;cases q with
       | none=>exact .inl ⟨rfl,rfl⟩
       | some y=>exact .inr ⟨_,_,rfl,rfl,(H y).1⟩
      obtain⟨out,wr,u,J,M,h3,h4⟩:=MV (P:=P) hT m Z (br lo) (br hi) (mx':=Wy) (.inl ⟨rfl,rfl⟩) (λh=>absurd rfl h) a1 h;refine⟨out,wr,J,M,rf.value (u:=u) (w':=w) ?_ h4⟩;simp[Xbd,h3]
    ·rename_i dg an;have a1:=(Y t x).1;rw[an] at a1;rcases h with h|h
     ·exact F Z a1 h
     rw[AH] at h;obtain⟨ag,h⟩:=h;obtain⟨l,hl,h⟩:=hb _ _ _ h;obtain⟨u,hh,⟨rfl,rfl⟩,hK⟩:=hb _ _ _ h;obtain⟨ie,z,ar,ba,_⟩:=(hT.of (Ax ag)).sV;generalize hv:ρ x=vx at a1;cases a1 with|d _ _ a1=>
     cases a1 with|nil=>
     have aa:=HW (P:=P) (w:=w) (BA hT Z) ar (a:=Wy) (len:=0) (cap:=0) (lo:=lo.map ρ) (hi':=hi.map ρ) (l:=0) (h:=0)
      (hl.imp (λq=>⟨bn _ q.1,rfl⟩) λq=>by
       obtain⟨k,Z⟩:=bd _ _ q
       exact⟨k,by rw[Z];rfl⟩)
      (hh.imp (λq=>⟨bn _ q.1,rfl⟩) λq=>by
       obtain⟨k,Z⟩:=bd _ _ q
       exact⟨k,by rw[Z];rfl⟩) (Xa8 _) (Xa8 _) (Xa8 _)
     refine⟨_,_,hK,none,rf.value (u:=.slice Wy 0 0) (w':=w) ?_ (s6.pure m (.d _ _ (.nil _)) (A1 _ _))⟩;first|(simp at aa;simp[Xbd,hv,aa])|simp[Xbd,hv,aa]
    exact F Z (Y t x).1 h
   ·rename_i Z;split at h
    ·rename_i s cg;have hb :∀(o:C AV) (a8:Int) (K:Int->Prop),DF o a8 K->∃i,(o=Wy/\i=a8 \/∃k,o=some (.d (.val (.int k i))))/\K i:=by
      intro o a8 K Z;unfold DF at Z;split at Z
      ·exact⟨a8,.inl ⟨rfl,rfl⟩,Z⟩
      ·exact⟨_,.inr ⟨_,rfl⟩,Z⟩
      exact Z.elim
     obtain⟨l,hl,h⟩:=hb _ _ _ h;obtain⟨u,hh,⟨c1,c2,c3⟩,hK⟩:=hb _ _ _ h;have hx:=(Y t x).1;rw[cg] at hx;have hv:=hx.str;have ay:=(hT.of (t:=t) (by rw[Z];simp[TK.sG])).kind;rw[Z] at ay;have aa:=Re (P:=P) (w:=w) (t:=t) ay (s:=s) (lo:=lo.map ρ) (hi':=hi.map ρ) (l:=l.toNat) (h:=u.toNat)
      (hl.imp (λq=>⟨bn _ q.1,by omega⟩) λq=>by
       obtain⟨k,Z⟩:=bd _ _ q
       exact⟨k,by rw[Z];congr 2;omega⟩)
      (hh.imp (λq=>⟨bn _ q.1,by omega⟩) λq=>by
       obtain⟨k,Z⟩:=bd _ _ q
       exact⟨k,by rw[Z];congr 2;omega⟩) (by omega) (by omega)
     refine⟨_,_,hK,none,rf.value (u:=.string (s.extract l.toNat u.toNat)) (w':=w) ?_ (Jw m rfl)⟩;simp[Xbd,hv,aa]
    exact h.elim
   exact h.elim
  | some mx=>
   simp only[sk] at h;have br :∀(q:C Xaw),BR S w φ (λr=>obl.getD r Wy) (q.map av) (q.map ρ):=by
    intro q;cases q with
    | none=>exact .inl ⟨rfl,rfl⟩
    | some y=>exact .inr ⟨_,_,rfl,rfl,(H y).1⟩
   unfold TW at h;split at h
   ·rename_i e Z;split at h
    ·rename_i r n an;have a1:=(H x).1;rw[an] at a1;split at h
     ·rename_i dh c0;have bh:=br hi;rw[c0] at bh;have ch:hi.map ρ≠Wy:=by
       cases hi with
       | none=>simp at c0
       | some y=>simp
      obtain⟨out,wr,u,J,M,h3,h4⟩:=MV (P:=P) hT m Z (br lo) bh (mx':=some (ρ mx)) (.inr ⟨_,_,rfl,rfl,(H mx).1⟩) (λ_=>ch) a1 h;refine⟨out,wr,J,M,rf.value (u:=u) (w':=w) ?_ h4⟩;simp[Xbd,h3]
     exact h.elim
    exact h.elim
   exact h.elim
 case makeSlice t n c=>simp only[sk] at h;obtain⟨out,wr,u,w',J,M,h3,h4⟩:=Wh hT m (H n).1 (H c).1 h;refine⟨out,wr,J,M,rf.value (u:=u) (w':=w') ?_ h4⟩;simp[Xbd,h3]
 case extract x i=>
  simp only[sk] at h;have hx:=(H x).1;have hc:=(H x).2;split at h
  ·rename_i vs Q;rw[Q] at hx hc;split at h
   ·rename_i a hg;rw[BH] at h;generalize hv:ρ x=vx at hx;cases hx with|sH _ us f hs hf hr=>
    obtain⟨p1,p2⟩:=X16.1 hg;refine⟨_,_,h,none,V (s:=Instr.extract (ρ x) i) (u:=f i) ?_ (p2▸hr i p1) (λr ah=>hc r (by rw[<- p2] at ah;simpa[AV.refs] using AV.rv vs i p1 r ah)) rfl⟩;rw[hv];simp[Instr.extract,hf i p1]
   exact h.elim
  exact h.elim
 case makeFunc fn first a7=>
  cases fn with
  | func f=>
   simp only[sk] at h;split at h
   ·rename_i bb;have cj:first=#[]:=Array.toList_eq_nil_iff.1 bb
    subst cj;refine⟨_,_,h,none,V (s:=Instr.makeFunc (.func f) #[] (a7.map ρ)) (u:=.func (.func f) #[] (a7.map ρ)) rfl ?_ (λr ah=>?_) (by simp[Xbd])⟩
    ·refine .fn f _ _ (λi=>ρ (a7.toList.getD i (.const Xc3))) (by simp) (λi hi=>?_) λi hi=>?_
     ·have hi':i<a7.size:=by simpa using hi
      simp[hi']
     have hi':i<a7.size:=by simpa using hi
     simp only[Xas];have:a7.toList.getD i (.const Xc3)=a7.toList[i]'(by simpa using hi'):=by simp[hi']
     rw[this];exact (H _).1
    obtain⟨c,ck,cm⟩:=AV.sf _ r (by simpa[AV.refs] using ah);obtain⟨x,_,rfl⟩:=Xa0.1 ck;exact (H x).2 r cm
   exact h.elim
  | _=>exact h.elim
 case call c=>
  simp only[sk] at h;obtain⟨callee,args,argTypes⟩:=c;simp only at h;split at h
  ·
   rename_i x;obtain⟨f,a7,h,hf⟩:=UX h;exact Qk (E:=E) H rfl hf (λdi ct J M=>WJ hC.2.1 m J M) h
  ·
   split at h
   ·rename_i x t U ae;have ha:args=#[x]:=by rw[<- Xav (xs:=args),U]
    have ht:argTypes=#[t]:=by rw[<- Xav (xs:=argTypes),ae]
    subst ha ht;obtain⟨out,J,M⟩:=a6 (XH (ty:=af) hT (Y t x).1 h) (by simp[Xbd,resolve,invoke,builtin]);exact⟨out,[],J,none,M⟩
   exact h.elim
  ·
   split at h
   ·rename_i x y t u U ae;have ha:args=#[x,y]:=by rw[<- Xav (xs:=args),U]
    have ht:argTypes=#[t,u]:=by rw[<- Xav (xs:=argTypes),ae]
    subst ha ht;split at h;rotate_left
    ·obtain⟨out,wr,v,w',J,M,h3,h4⟩:=VO (ty:=af) hT m (Y _ x).1 (H y).1 h;refine⟨out,wr,J,M,rf.value (u:=v) (w':=w') ?_ h4⟩;simp[Xbd,resolve,invoke,builtin,h3]
    rename_i cn;have:=Bd.1 cn;subst this;obtain⟨out,wr,v,w',J,M,h3,h4⟩:=Rl (ty:=af) hT m (Y _ x).1 (Y _ y).1 h;refine⟨out,wr,J,M,rf.value (u:=v) (w':=w') ?_ h4⟩;simp[Xbd,resolve,invoke,builtin,h3]
   exact h.elim
  ·
   split at h
   ·rename_i x t U ae;have ha:args=#[x]:=by rw[<- Xav (xs:=args),U]
    have ht:argTypes=#[t]:=by rw[<- Xav (xs:=argTypes),ae]
    subst ha ht;obtain⟨out,J,M⟩:=a6 (YH (ty:=af) hT (Y t x).1 h) (by simp[Xbd,resolve,invoke,builtin]);exact⟨out,[],J,none,M⟩
   exact h.elim
  ·
   split at h
   ·rename_i x t U ae;have ha:args=#[x]:=by rw[<- Xav (xs:=args),U]
    have ht:argTypes=#[t]:=by rw[<- Xav (xs:=argTypes),ae]
    subst ha ht;split at h
    ·rename_i r a n mm an;have a1:=(H x).1;rw[an] at a1;obtain⟨out,wr,w',J,M,h3,h4⟩:=UY (ty:=af) hT m a1 h;refine⟨out,wr,J,M,rf.value (u:=.tuple #[]) (w':=w') ?_ h4⟩;simp[Xbd,resolve,invoke,builtin,h3]
    exact h.elim
   exact h.elim
  ·
   split at h
   ·rename_i x y t u U ae;have ha:args=#[x,y]:=by rw[<- Xav (xs:=args),U]
    have ht:argTypes=#[t,u]:=by rw[<- Xav (xs:=argTypes),ae]
    subst ha ht;obtain⟨out,wr,v,w',J,M,h3,h4⟩:=Um (u:=u) (ty:=af) hT m (H x).1 (H y).1 h;refine⟨out,wr,J,M,rf.value (u:=v) (w':=w') ?_ h4⟩;simp[Xbd,resolve,invoke,builtin,h3]
   exact h.elim
  ·
   split at h
   ·rename_i x y U;have ha:args=#[x,y]:=by rw[<- Xav (xs:=args),U]
    subst ha;obtain⟨out,J,M⟩:=a6 (XZ (H x).1 (H y).1 h argTypes af) (by simp[Xbd,resolve,invoke,builtin]);exact⟨out,[],J,none,M⟩
   exact h.elim
  ·
   split at h
   ·rename_i x y U;have ha:args=#[x,y]:=by rw[<- Xav (xs:=args),U]
    subst ha;obtain⟨out,J,M⟩:=a6 (XV (H x).1 (H y).1 h argTypes af) (by simp[Xbd,resolve,invoke,builtin]);exact⟨out,[],J,none,M⟩
   exact h.elim
  exact h.elim
 all_goals exact h.elim
def Rf {obl:O (C OB)}(hT:rc P T)(m:Mem E w S φ (λr=>obl.getD r none)){st ty self r n:Nat}{V:O AV}{y:AV}{vx vy:A}{K:AV->W->Prop} (hx:gM S w φ (λr=>obl.getD r none) (.own r n) vx) (ho:obl.getD r none=some (.box V)) (hy:gM S w φ (λr=>obl.getD r none) y vy) (h:TZ T st self V y obl K) : ∃out wr u w',K out wr/\(∀r o,(r,o)∈wr->r<obl.length)/\(Xcn #[st,st] ty #[vx,vy]).run P w=.ok u w'/\s6 E w S φ (λr=>obl.getD r none) out wr u w':=by
 unfold TZ at h;split at h
 ·rename_i e hk;rw[Eu,AH] at h;simp only[X27] at h;obtain⟨Z,⟨⟨⟨c1,c2⟩,c3⟩,c4⟩,h⟩:=h;obtain⟨sz,ys,h,a6⟩:=Ll m hy h;rw[AH] at h;simp only[X27] at h;obtain⟨⟨c5,c6⟩,hb,h⟩:=h;have ai:=Y1 c1;have s7:(T.get e).size=V.length:=Bd.1 c2;have a7:0<(T.get e).size:=X29 c3;have bd:(T.get e).bytes<=65536:=X29 c4;have a8:sz=(T.get e).size:=Bd.1 c5;subst a8;have aa:ys≠[]:=by simpa using c6
  have aj:0<ys.length:=Xc7.2 aa;obtain⟨ak,al⟩:=CV Z;have an:=hT.of (t:=e) (by rw[ai];simp);obtain⟨i,z,F,ao,be,hz,ap,bf,_⟩:=an.sV;obtain⟨b,c,vs,e0,f,f1,f2,f3,f4,f5,f6⟩:=m.obj r _ ho;cases hx with|own _ _ _ kk c0 a0 hv bg h1 aq=>
  obtain⟨rfl,b',c',a1,ar⟩:=aq V ho;rw[f1] at a1;simp only[X24,X26] at a1;obtain⟨rfl,rfl⟩:=a1;rw[ar];have ab:gM S w φ (λr=>obl.getD r none) (.agg V) (.agg vs):=.agg V vs f f3 f5 (λi F=>(f6 i F).1) λi F=>(f6 i F).2;obtain⟨d,wr,S1,hK,m1,k1,hd,au,ax⟩:=D8 m (rl.refl _) ab h;rw[AH] at hK;obtain⟨hw,hK⟩:=hK;obtain⟨ay,tz⟩:=hd.cells;have az:d.cells.length=(T.get e).size:=by rw[<- ay];simp only[Xdj];omega
  rcases a6.v with ⟨_,b0⟩|⟨b2,o2,ba,g,rfl,hc,hr⟩
  ·exact absurd b0 aa
  have bc:(1+ys.length)*i.bytes<=1000001*65536:=Nat.mul_le_mul (by omega) (by omega);have ae:grownCap w (1+ys.length) 1 e<=Xbl:=grownCap_le_maxLen w _ 1 e (by simp only[Xbl];omega);have bh:=grownCap_ge w (1+ys.length) 1 e;have Y:=run_append_grow (P:=P) w st ty e i z (BA hT hk) F hz ⟨b,0,none⟩ 1 1 vs.toList (by simp;omega)
   (λj v H=>by
    rw[Addr.ss,Xan];have:cellAt w b j=some v:=by rw[BB f2];simpa using H
    exact this) ⟨b2,o2,none⟩ ys.length ba (flat ys.length (T.get e).size g) (by rw[rk,ao])
   (Ny (g:=λk=>w.cell? ((⟨b2,o2,none⟩:Addr).add k)) λi j F H=>by rw[Addr.ss];have:=hc i j F H;rw[Xb9] at this;exact this)
   (by omega) (by omega) (growslice_fits (by omega) (by omega))
  obtain⟨md,kd⟩:=m1.drew;generalize J:(vs.toList.toArray++(flat ys.length (T.get e).size g).toArray++Xaf z.cells (grownCap w (1+ys.length) 1 e-(1+ys.length)))=cells at Y;have af:cells.size=grownCap w (1+ys.length) 1 e*(T.get e).size:=by rw[<- J];simp only[Array.size_append,Xbo,size_zeroCells,ap,rk,Xal,f3,<- s7];rw[show (T.get e).size+ys.length*(T.get e).size=(1+ys.length)*(T.get e).size by rw[X32,Nat.one_mul],<- X32];congr 1;omega
  have Q :∀j,j<(T.get e).size->cells[j]?=some (f j):=by
   grind
  have U :∀i j,i<ys.length->j<(T.get e).size->cells[(i+1)*(T.get e).size+j]?=some (g i j):=by
   intro i j F H;have:(i+1)*(T.get e).size<=ys.length*(T.get e).size:=X31 _ F;rw[X32] at this⊢;rw[<- J,Array.getElem?_append_left (by simp[rk];omega),Array.getElem?_append_right (by simp;omega)];have e2:i*(T.get e).size+1*(T.get e).size+j-vs.toList.toArray.size=i*(T.get e).size+j:=by simp;omega
   rw[e2];simpa using flat_get g F H
  obtain⟨m2,k2⟩:=md.alloc self (grownCap w (1+ys.length) 1 e,0) (.row e (T.get e).size (d::ys) .no) cells e (au.none ak) (λr hr=>by simp[OB.refs] at hr) (λag=>by
   refine⟨a7,λi F=>?_,λi F j H=>?_,.inr ⟨w.heap.size,(grownCap w (1+ys.length) 1 e,0),cells,λi j=>match i with
    | 0=>f j
    | i+1=>g i j,gL _ _ _,heap_alloc_new w.drew _,by simp;omega,ae,Nat.le_of_eq ((Xan _).trans af.symm),λi j F H=>?_,λi F j H=>?_,λo _ ho=>absurd (m1.bS _ _ ho) (Nat.lt_irrefl _),λ_ _ _ _ h=>nomatch h⟩⟩
   ·cases i with
    | zero=>exact az
    | succ i=>exact a6.s7 i (by simpa using F)
   ·cases i with
    | zero=>obtain⟨u,_,q2,_⟩:=tz j H;exact q2
    | succ i=>exact a6.na i (by simpa using F) j H
   ·cases i with
    | zero=>simpa using Q j H
    | succ i=>simpa only[Xan] using U i j (by simpa using F) H
   cases i with
   | zero=>
    obtain⟨u,q1,_,q3⟩:=tz j H;have bb:j<V.length:=by have:j<d.cells.length:=H;omega
    have hq:=f5 j bb;simp only[Xdj] at q1;rw[hq] at q1;simp only[X24] at q1;subst q1;exact (q3.mono kd.k).mono ag.k
   | succ i=>exact ((hr i (by simpa using F) j H).mono k1.k |>.mono kd.k).mono ag.k)
  refine⟨_,_,_,_,hK,λr' o' hm=>?_,Y,S1,_,by rw[AU];exact m2,by rw[AU];exact (k1.trans kd).trans k2,?_,?_⟩
  ·rcases X23.1 hm with hm|hm
   ·obtain⟨e',bi,bj,f',e1,_⟩:=ax r' o' hm;exact Dz obl r' _ e1
   simp only[X14,X26] at hm;rw[hm.1];exact al
  ·refine .own self _ _ (1+ys.length) _ (some ⟨w.heap.size,0,none⟩) rfl (Xci _ _) (λe2 bk bl f2 M=>?_) (λV M=>?_)
   ·rw[AU] at M;simp only[Ag,gL,X24,OB.row.injEq] at M;obtain⟨rfl,rfl,rfl,rfl⟩:=M;exact⟨by simp,λ_=>.inr ⟨_,_,gL _ _ _,by rw[Xci];rfl⟩⟩
   rw[AU] at M;simp[Ag] at M
  intro r' ah;simp only[AV.refs,X14] at ah;subst ah;rw[AU];simp[Ag]
 exact h.elim
def run_equalIn_slice_nil (w:B)(d t e:Nat)(F:C Addr)(n c:Nat)(h:P.underlying t=some (.slice e)):(Op.equalIn (d+1) t (.slice F n c) (.slice none 0 0)).run P w=.ok F.isNone w:=by have H:(underlying t).run P w=.ok (.slice e) w:=Xa5 h w;unfold Op.equalIn;rw[Xa9,H,Xa1];cases F<;>rfl
def ZZ (w:B)(ty e:Nat)(ox oy:Xaw)(F:C Addr)(n c:Nat)(h:P.underlying ty=some (.slice e)) : ((do eqGuard .eql ty ox oy (.slice F n c) (.slice none 0 0);binOp .eql ty (.slice F n c) (.slice none 0 0):Sem A)).run P w=.ok (.bool F.isNone) w:=by have H:(eqGuard .eql ty ox oy (.slice F n c) (.slice none 0 0)).run P w=.ok () w:=rfl;have J:binOp .eql ty (.slice F n c) (.slice none 0 0)=(do pure (Value.bool (← Op.equal ty (.slice F n c) (.slice none 0 0)))):=rfl;have K:=run_equalIn_slice_nil (P:=P) w 9999 ty e F n c h;have M:(Op.equal ty (.slice F n c) (.slice none 0 0)).run P w=.ok F.isNone w:=K;rw[Xa9,H,Xa1,J,Xa9,M,Xa1];rfl
def Zs {obl:O (C OB)}{cx:Cx}(M:rc P cx.T)(hC:Oi E.wl P cx)(m:Mem E w S φ (λr=>obl.getD r none)){o:z}{av:Xaw->AV}{ρ:Xaw->A}{K:AV->W->Prop} (F :∀x,gM S w φ (λr=>obl.getD r none) (av x) (ρ x)/\gO (λr=>obl.getD r none) (av x)) (h:x9 cx o av obl K) : ∃out wr,K out wr/\(∀r o,(r,o)∈wr->r<obl.length)/\rf P o ρ w (s6 E w S φ (λr=>obl.getD r none) out wr):=by
 unfold x9 at h;split at h
 ·rename_i op ty x y yt H;split at h
  ·rename_i sz es J aa;split at h
   ·rename_i e hk;have hx:=(F x).1;have hy:=(F y).1;rw[J] at hx;rw[aa] at hy;have ab:=hy.val;obtain⟨a0,n,c,ae,hn⟩ :∃a0 n c,ρ x=.slice a0 n c/\(a0=none->es.length=0):=by
     cases hx with|d _ _ hx=>
     generalize ρ x=vx at hx;cases hx with
     | sB _ a a6=>exact⟨a,0,a6,rfl,λ_=>rfl⟩
     | su _ _ b o a6=>exact⟨_,_,_,rfl,λh=>by simp at h⟩
    have hu:P.underlying ty=some (.slice e):=by have:=(M.of (t:=ty) (by rw[hk];simp[TK.sG])).kind;rwa [hk] at this
    have a7:(Xbd ρ o).run P w=.ok (.value (.bool a0.isNone)) w:=by
     have Q:=ZZ (P:=P) w ty e x y a0 n c hu;have he:Xbd ρ o=(do let v ← (do eqGuard .eql ty x y (ρ x) (ρ y);binOp .eql ty (ρ x) (ρ y):Sem A);pure (.value v)):=by unfold Xbd;rw[H]
     rw[he,ae,ab,Xa9,Q,Xa1];rfl
    have a8:K (.b a0.isNone) []:=by
     cases a0 with
     | none=>exact h.2 (hn rfl)
     | some a=>exact h.1
    exact⟨_,[],a8,λ_ _ hm=>by simp at hm,rf.value (u:=.bool a0.isNone) (w':=w) a7 ⟨S,φ,m,.refl _ _ _ _,.d _ _ (.val _ rfl),A1 _ _⟩⟩
   exact h.elim
  exact E9 M hC m F h
 ·rename_i ty a x H;split at h
  ·rename_i r n i k r' n' Y J;rcases h with h|h
   ·obtain⟨out,wr,w',Q,Z,h3,h4⟩:=G3 (P:=P) M m Y (F a).1 (J▸(F x).1) h;exact⟨out,wr,Q,Z,rf.skip (w':=w') (by unfold Xbd;rw[H];simp[h3]) h4⟩
   obtain⟨out,wr,w',Q,Z,h3,h4⟩:=IT (P:=P) M m (Y▸(F a).1) (J▸(F x).1) (J▸(F x).2) h;exact⟨out,wr,Q,Z,rf.skip (w':=w') (by unfold Xbd;rw[H];simp[h3]) h4⟩
  ·rename_i r n i k cs Y J;obtain⟨out,wr,w',Q,Z,h3,h4⟩:=G3 (P:=P) M m Y (F a).1 (J▸(F x).1) h;exact⟨out,wr,Q,Z,rf.skip (w':=w') (by unfold Xbd;rw[H];simp[h3]) h4⟩
  exact E9 M hC m F h
 ·rename_i c H;split at h
  ·rename_i U;split at h
   ·rename_i x y t u V a1;split at h
    ·rename_i r n hx;split at h
     ·rename_i cs ho;obtain⟨callee,args,argTypes⟩:=c;simp only at U V a1;subst U;have ha:args=#[x,y]:=by rw[<- Xav (xs:=args),V]
      have ht:argTypes=#[t,u]:=by rw[<- Xav (xs:=argTypes),a1]
      subst ha ht;rw[AH] at h;obtain⟨af,h⟩:=h;have:=Bd.1 af;subst this;obtain⟨out,wr,v,w',Q,Z,h3,h4⟩:=Rf (ty:=o.type) M m (hx▸(F x).1) ho (F y).1 h;refine⟨out,wr,Q,Z,rf.value (u:=v) (w':=w') ?_ h4⟩;unfold Xbd;rw[H];simp[resolve,invoke,builtin,h3]
     exact E9 M hC m F h
    exact E9 M hC m F h
   exact E9 M hC m F h
  ·rename_i x U;obtain⟨f,ag,h,hf⟩:=UX h;obtain⟨callee,args,argTypes⟩:=c;simp only at U;subst U;exact Qk (E:=E) F H hf (λai ah Q Z=>Uj hC.2.1 m Q Z) h
  exact E9 M hC m F h
 exact E9 M hC m F h
end
end Go.AX
end
