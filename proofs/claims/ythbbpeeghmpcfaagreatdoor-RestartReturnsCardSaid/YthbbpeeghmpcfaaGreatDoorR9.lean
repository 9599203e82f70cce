/-
  Texts of one proof, packed.
-/
import Derived.Test.YthbbpeeghmpcfaaGreatDoorR8
set_option linter.all false
set_option maxRecDepth 100000
set_option maxHeartbeats 4000000
open List renaming length_map→X1,length_append→X2,mem_singleton→X11,getElem?_eq_some_iff→X13,length_drop→X14,length_take→X15,length_replicate→X17,length_set→X18,mem_append→X20
open Option.some renaming injEq→X21,inj→X22
open Prod.mk renaming injEq→X23
open Bool renaming and_eq_true→X24
open Nat renaming le_of_ble_eq_true→X26,eq_of_beq_eq_true→X27,mul_le_mul_right→X28,add_mul→X29
open Option renaming none→Xan
open List renaming replicate→Xaa
open Go.Builtin renaming zeroCells→Xac,append_→Xc0
open Go renaming run_underlying→Xae,Operand→Xbq,execOp→Xce,undef→Xck,typeInfo→Xdx,FuncId→Xdy,grownCap→Xec,maxLen→Xc7
open Nat renaming beq→Xal
open Go.Result renaming andThen_ok→Xaw
open Go.Sem renaming run_bind→Xb0
open Go.Value.slice renaming injEq→Xcr
open Go.Value renaming cells→Xe2
section
namespace Go.AX
section
variable {P:Program} {T:TT} {E:Env} {w:B} {S:Sc} {φ:Nat->C (Nat×Rp)} {ob:Nat->C OB}
def Ll {obl:O (C OB)}(m:Mem E w S φ (λr=>obl.getD r none)){u:A}(h:u.oneCell'=true):zP E w S φ (λr=>obl.getD r none) (.d (.val u)) [] u w:=
 zP.pure m (.d _ _ (.val _ h)) (A0 _ _)
def OV {a:AV}(h:isNil a=true):a=.d (.val (.slice none 0 0)):=by
 unfold isNil at h;split at h
 ·rfl
 simp at h
def jQ {t:Nat}{i:TypeInfo}{z:A}(F:P.info? t=some i)(H:i.zero=some z):(Instr.alloc t true (.tuple #[])).run P w=.ok (.pointer (some ⟨w.heap.size,0,none⟩)) (w.alloc (.cells z.cells t)):=by simp[Instr.alloc,zeroValue,Xdx,F,H,newVar,newRow]
def JS {obl:O (C OB)}{F:AV}{e sz:Nat}{zs:O D}{frz:FZ}{r:Nat}{u:A}{w':B}{φ':Nat->C (Nat×Rp)} (m:Mem E w' S φ' (zg (λr=>obl.getD r none) r (some (.row e sz zs frz)))) (k:Kept w S φ (λr=>obl.getD r none) w' S φ' (zg (λr=>obl.getD r none) r (some (.row e sz zs frz)))) (Q:JF φ' r zs.length u) (U:F=.own r zs.length):zP E w S φ (λr=>obl.getD r none) F [(r,.row e sz zs frz)] u w':=by
 subst U;refine⟨S,φ',m,k,?_,λr' H=>?_⟩
 ·have V :∃k c a0,u=.slice a0 k c/\k=zs.length:=by
   rcases Q with ⟨_,K,_,rfl⟩|⟨b,M,_,rfl⟩
   ·exact⟨0,0,_,rfl,K.symm⟩
   exact⟨_,M.1,_,rfl,rfl⟩
  obtain⟨Y,c,a0,Z,K⟩:=V;refine .own r _ u Y c a0 Z K (λe' a6 a7 f' J=>?_) λcs J=>?_
  ·simp only[Af,gS,X21,OB.row.injEq] at J;obtain⟨rfl,rfl,rfl,rfl⟩:=J;exact⟨Xak _,λ_=>Q⟩
  simp[Af] at J
 simp only[AV.refs,X11] at H;subst H;simp[Af]
def BS {a b:Nat}:Xal a b=true↔a=b:=⟨X27,λh=>h▸Xe6 a⟩
def Zp {obl:O (C OB)}(hT:xD P T)(m:Mem E w S φ (λr=>obl.getD r none)){t u ty r k:Nat}{n:AV}{vx vn:A}{K:AV->W->Prop} (hx:kI S w φ (λr=>obl.getD r none) (.own r k) vx) (hn:kI S w φ (λr=>obl.getD r none) n vn) (h:fG T t u r k n obl K) : ∃a6 wr v w',K a6 wr/\(∀r o,(r,o)∈wr->r<obl.length)/\(Xc0 #[t,u] ty #[vx,vn]).run P w=.ok v w'/\zP E w S φ (λr=>obl.getD r none) a6 wr v w':=by
 unfold fG at h;split at h
 ·rename_i e n hk ah;rw[Ao] at h;obtain⟨o,ho,h⟩:=h;cases o with
  | box=>simp at h
  | map=>simp at h
  | zj=>simp at h
  | gone=>simp at h
  | row e' sz es ar=>
   simp only[AI,X24] at h;obtain⟨⟨⟨⟨⟨⟨q1,q2⟩,q3⟩,q4⟩,q5⟩,q6⟩,⟨a7,b1,b2,b3,b4,b5⟩,z,hz,zs,ai,hK⟩:=h;have q1:=BS.1 q1;have q2:=BS.1 q2;obtain rfl:=FZ.Fx q3;subst q1 ai;obtain⟨g0,_⟩:=m.obj r _ ho;have a8:0<(T.get e').size:=by omega
   obtain⟨H,Q,aa⟩:=Qk (P:=P) (w:=w) (S:=S) hT q5 a8 q6;rw[hz] at aa;obtain⟨zc,zr⟩:=aa.cells;have ab:=hT.of (Ar q5);obtain⟨ie,zz,U,au,ax,V,ap,aq,_⟩:=ab.Dg;have ae:H=zz:=by
    have:(zeroValue e').run P w=.ok zz w:=by simp[zeroValue,Xdx,U,V]
    rw[this] at Q;simp only[Result.ok.injEq] at Q;exact Q.1.symm
   subst ae;have J:H.cells.size=sz:=by omega
   have aj:z.cells.length=sz:=by omega
   obtain⟨mn,rfl⟩ :∃mn:Nat,n=mn:=⟨n.toNat,by omega⟩;simp only[Xax] at b4 b5 hK;have af :∀v∈(Xac H.cells mn).toList,v.oneCell'=true:=by
    intro v ak;obtain⟨q,hq,rfl⟩:=Xai ak;have al:(Xac H.cells mn).toList.length=mn*sz:=by simp[size_zeroCells,J]
    rw[al] at hq;have e1:q/sz<mn:=Nat.div_lt_of_lt_mul (by rw[Xc6];exact hq);have e2:q%sz<sz:=Xeu _ g0;have e3:q/sz*sz+q%sz=q:=Nat.div_add_mod' q sz;have:=Hh H.cells mn (q/sz) (q%sz) e1 (by omega);rw[J,e3] at this;obtain⟨u,p1,p2,p3⟩:=zr (q%sz) (by omega);rw[p1] at this;have an:q<(Xac H.cells mn).size:=by simpa using (by omega:q<(Xac H.cells mn).toList.length)
    rw[Array.getElem?_eq_getElem an] at this;simp only[Array.getElem_toList];rw[X22 this];exact p3.one p2
   obtain rfl:=hn.int;cases hx with|own _ _ _ k c a0 hv ay h1 az=>
   have M:=(h1 _ _ _ _ ho).2 a7;rw[a7] at M;have ao:P.underlying u=some (.int .i64):=by have:=(hT.of (Ar q4)).kind;rw[ah] at this;exact this
   have Y:(Xaa mn z).length=mn:=by simp
   have Z :∀i (F:i<(Xaa mn z).length),(Xaa mn z)[i]=z:=by intro i F;simp
   obtain⟨u',w',φ',g1,g2,g3,g4⟩:=KA (ty:=ty) (u:=u) (ys:=Xaa mn z) (fz':=.no) (vy:=.int .i64 (mn:Int)) (f:=λ_ j=>H.cells.getD j Xck) m ab (Av hT hk) rfl ho M
    (λi F=>by rw[Z i F];exact aj) (λi F j hj=>by
     have:=Z i F;simp only[this] at hj⊢;exact (zr j hj).choose_spec.2.1) (λi F j hj=>by
     have:=Z i F;simp only[this] at hj⊢;obtain⟨u,p1,p2,p3⟩:=zr j hj;have:H.cells.getD j Xck=u:=by simp[p1]
     rw[this];exact p3) (λ{i z'} F ag=>by
     rw[U] at F;cases F;rw[V] at ag;cases ag;have:=nO (w:=w) (ty:=ty) (n:=mn) (Av hT hk) ao U V (by omega) (by omega) af (by omega) (by omega);rw[Y];have e:ie.size=sz:=by omega
     rw[e] at this
     exact this) (λ_ _ _ _ h=>nomatch h) q2.symm (by rw[Y];exact b4) (by rw[Y];exact b5)
   refine⟨_,_,u',w',hK,λr' o' hm=>?_,g1,JS g2 g3 g4 rfl⟩;simp only[X11,X23] at hm;rw[hm.1];exact Cb obl _ _ ho
 exact h.elim
def Yq {obl:O (C OB)}(H:xD P T)(m:Mem E w S φ (λr=>obl.getD r none)){t u ty self:Nat}{x n:AV}{J M:A}{K:AV->W->Prop} (Q:kI S w φ (λr=>obl.getD r none) x J) (U:kI S w φ (λr=>obl.getD r none) n M) (h:gW T t u self x n obl K) : ∃F wr v w',K F wr/\(∀r o,(r,o)∈wr->r<obl.length)/\(Xc0 #[t,u] ty #[J,M]).run P w=.ok v w'/\zP E w S φ (λr=>obl.getD r none) F wr v w':=by
 unfold gW at h;split at h
 ·exact Zp H m Q U h
 ·exact aD H m Q U h
 exact h.elim
def ac {obl:O (C OB)}(m:Mem E w S φ (λr=>obl.getD r none)){y:AV}{vy:A}{k sz:Nat}{frz:FZ}{K:FZ->Prop}(hy:kI S w φ (λr=>obl.getD r none) y vy)(h:lK obl y k sz frz K) : ∃f:FZ,f.frozen=frz.frozen/\K f/\∀i j q n,f=.lk i j q n->obl.getD q none≠none/\∃M,i=k+M/\∀b o l c u,vy=.slice (some ⟨b,o,none⟩) l c->M<l->j<sz->cellAt w b (o+(M*sz+j))=some u->kI S w φ (λr=>obl.getD r none) (.own q n) u:=by
 unfold lK at h;split at h
 ·exact⟨.Dd,rfl,h,λ_ _ _ _ h=>nomatch h⟩
 rename_i Q;have hf:frz.frozen=false:=by
  cases frz with
  | Dd=>exact absurd rfl Q
  | no=>rfl
  | lk=>rfl
 rw[hf];split at h
 ·rename_i q n;split at h
  ·rename_i e a7 ys i j q' n' U;split at h
   ·rename_i V;have V:=X27 V;subst V;obtain⟨Q,hK⟩:=h;refine⟨_,rfl,hK,λi2 j2 q2 n2 Y=>?_⟩;simp only[FZ.lk.injEq] at Y;obtain⟨rfl,rfl,rfl,rfl⟩:=Y;refine⟨m.GJ q _ U _ (by simp[OB.refs]),i,rfl,λb o l c u J hi Z hc=>?_⟩;cases hy with|own _ _ _ k' c' a0 hv a8 h1 aa=>
    obtain⟨_,_,_,g3⟩:=m.obj q _ U;rcases (h1 _ _ _ _ U).2 Q with ⟨a1,a2,a3,F⟩|⟨b1,ab,a1,F⟩
    ·rw[J] at F;simp at F;omega
    rw[J] at F;simp only[Xcr,X21,Addr.mk.injEq] at F;obtain⟨⟨rfl,rfl,_⟩,rfl,rfl⟩:=F;rcases g3 with ⟨H,_⟩|⟨b',a6,vs,f,H,f2,f3,f4,f5,f6,f7,f8⟩
    ·rw[a1] at H;simp at H
    rw[a1] at H;simp only[X21,X23] at H;obtain⟨rfl,rfl⟩:=H;have:=f6 i j (by omega) Z;rw[<- BB f2,hc] at this;rw[X22 this];exact f8.2 i j q' n' rfl (by omega) Z
   exact⟨.no,rfl,h,λ_ _ _ _ h=>nomatch h⟩
  exact⟨.no,rfl,h,λ_ _ _ _ h=>nomatch h⟩
 exact⟨.no,rfl,h,λ_ _ _ _ h=>nomatch h⟩
def VM {obl:O (C OB)}(hT:xD P T)(m:Mem E w S φ (λr=>obl.getD r none)){st ty self:Nat}{x y:AV}{vx vy:A}{K:AV->W->Prop}(Q:kI S w φ (λr=>obl.getD r none) x vx) (hy:kI S w φ (λr=>obl.getD r none) y vy) (h:Rz T st self x y obl K) : ∃aa wr u w',K aa wr/\(∀r o,(r,o)∈wr->r<obl.length)/\(Xc0 #[st,st] ty #[vx,vy]).run P w=.ok u w'/\zP E w S φ (λr=>obl.getD r none) aa wr u w':=by
 unfold Rz at h;split at h
 ·rename_i e hk;obtain⟨V,ys,h,Z⟩:=Kr m hy h;split at h
  ·rename_i ar;rw[En,AI,AI,X24] at h;obtain⟨J,⟨ah,ai⟩,M,Y,hK⟩:=h;have zx:=BS.1 ah;have ab:0<(T.get e).size:=X26 ai;subst zx;obtain⟨a6,ae⟩:=CQ J;obtain⟨m1,k1⟩:=m.empty self e (T.get e).size a6 ab;cases Q with|d _ _ Q=>
   cases Q with|nil=>
   have af:Mz S w (T.get e).size ys vy:=Z;obtain⟨u,w',φ',h1,h2,h3,h4⟩:=LN (ty:=ty) m1 (hT.of (Ar M)) (Av hT hk) (r:=self) (es:=[]) (frz:=.no) (fz':=.no) rfl (gS _ _ _) (.inl ⟨gS _ _ _,rfl,_,rfl⟩) af (λ_ _ _ _ h=>nomatch h) rfl (by simpa using Y.1) (by simpa using Y.2);rw[Xah,gA] at h2 h3;rw[Xah] at h4;refine⟨_,_,u,w',hK,λr o hm=>?_,h1,JS h2 (k1.trans h3) h4 rfl⟩;simp only[X11,X23] at hm;rw[hm.1];exact ae
  ·rename_i r n;rw[Ao] at h;obtain⟨o,ho,h⟩:=h;cases o with
   | box=>simp at h
   | map=>simp at h
   | zj=>simp at h
   | gone=>simp at h
   | row e' sz es frz=>
    simp only[AI,X24] at h;obtain⟨⟨⟨⟨q1,q2⟩,q3⟩,q4⟩,M,hn,Y,zs,a7,hK⟩:=h;obtain⟨fz',aj,hK,ak⟩:=ac m hy hK;have q1:=BS.1 q1;have q2:=BS.1 q2;have q3:=BS.1 q3;subst q1 q2 a7;cases Q with|own _ _ _ k c a0 hv al h1 au=>
    have F:=(h1 _ _ _ _ ho).2 hn;rw[hn] at F;obtain⟨u,w',φ',g1,g2,U,g4⟩:=LN (ty:=ty) m (hT.of (Ar M)) (Av hT hk) aj ho F Z (λi j q n h=>ak i j q n h) q3.symm Y.1 Y.2;refine⟨_,_,u,w',hK,λr o hm=>?_,g1,JS g2 U g4 rfl⟩;simp only[X11,X23] at hm;rw[hm.1];exact Cb obl _ _ ho
  ·rename_i r a n mm _;rw[Ao] at h;obtain⟨o,ho,h⟩:=h;cases o with
   | box=>simp at h
   | map=>simp at h
   | zj=>simp at h
   | gone=>simp at h
   | row e' sz es frz=>
    simp only[AI,X24,En] at h;obtain⟨⟨⟨⟨⟨q1,q2⟩,q3⟩,q4⟩,q5⟩,M,J,an,hn,ax,Y,zs,a7,hK⟩:=h;have q1:=BS.1 q1;have q2:=BS.1 q2;have q3:=BS.1 q3;obtain rfl:=FZ.Fx q5;subst q1 q2 a7 an;obtain⟨a6,ae⟩:=CQ J;cases Q with|Fc _ _ _ _ _ k c a0 hv al h1=>
    obtain⟨_,_,F⟩:=(h1 _ _ _ _ ho).2 hn;have F:=F rfl;have a8:(es.take n).length=n:=by simp;omega
    have hp :∃p:C (Nat×Rp),((p=none/\es.take n=[]) \/∃b c c',φ r=some (b,c)/\p=some (b,(c',c.2+0*V))/\(es.take n).length<=c'/\0+c'<=c.1)/\JF (zg (zg φ r none) self p) self n vx:=by
     rcases F with ⟨f1,f2,a9,f3⟩|⟨b,H,f1,f3⟩
     ·exact⟨none,.inl ⟨rfl,Xag (by omega)⟩,.inl ⟨gS _ _ _,f2,a9,f3⟩⟩
     refine⟨some (b,(H.1,H.2+0*V)),.inr ⟨b,H,H.1,f1,rfl,?_,by omega⟩,.inr ⟨b,(H.1,H.2+0*V),gS _ _ _,by simpa using f3⟩⟩;obtain⟨_,_,_,U⟩:=m.obj r _ ho;rcases U with ⟨U,_⟩|⟨b',aq,vs,g,g1,g2,U,_⟩
     ·rw[f1] at U;simp at U
     grind
    obtain⟨p,ao,ap⟩:=hp;obtain⟨m1,k1⟩:=m.NO r self e' V 0 es (es.take n) p ho a6 (by omega) (λi hi=>by simp) ao;obtain⟨u,w',φ',g1,g2,U,g4⟩:=LN (ty:=ty) m1 (hT.of (Ar M)) (Av hT hk) (r:=self) (es:=es.take n) (ys:=ys) (frz:=.no) (fz':=.no) rfl (gS _ _ _) (by rw[a8];exact ap) Z (λ_ _ _ _ h=>nomatch h) q3.symm (by rw[a8];exact Y.1) (by rw[a8];exact Y.2);rw[gA] at g2 U;refine⟨_,_,u,w',hK,λr' o hm=>?_,g1,S,φ',g2,k1.trans U,?_,λr' ag=>?_⟩
    ·grind
    ·have hs :∃k c a0,u=.slice a0 k c/\k=(es.take n++ys).length:=by
      rcases g4 with ⟨_,h2,_,rfl⟩|⟨b,H,_,rfl⟩
      ·exact⟨0,0,_,rfl,h2.symm⟩
      exact⟨_,H.1,_,rfl,rfl⟩
     obtain⟨k',c,a0,e1,e2⟩:=hs;refine .own self _ u k' c a0 e1 e2 (λay az ba f2 Q=>?_) λcs Q=>?_
     ·simp only[Af,gS,X21,OB.row.injEq] at Q;obtain⟨rfl,rfl,rfl,rfl⟩:=Q;exact⟨Xak _,λ_=>g4⟩
     simp[Af] at Q
    simp only[AV.refs,X11] at ag;subst ag;simp[Af]
  exact h.elim
 exact h.elim
def z6.value {o:z}{ρ:Xbq->A}{Q:A->B->Prop}{u:A}{w':B}(h:(Xce ρ o).run P w=.ok (.value u) w')(F:Q u w'):z6 P o ρ w Q:=by unfold z6;rw[h];exact F
def z6.skip {o:z}{ρ:Xbq->A}{Q:A->B->Prop}{w':B}(h:(Xce ρ o).run P w=.ok .skip w')(F:Q Xck w'):z6 P o ρ w Q:=by unfold z6;rw[h];exact F
def Zi {t e:Nat}{H:TypeInfo}(J:P.underlying t=some (.slice e))(K:P.info? e=some H){a:C Addr}{len cap:Nat}{lo hi' mx:C A}{l h q:Nat} (M:lo=none/\l=0 \/∃k,lo=some (.int k (l:Int))) (Q:hi'=none/\h=len \/∃k,hi'=some (.int k (h:Int))) (U:mx=none/\q=cap\/(∃k,mx=some (.int k (q:Int)))/\hi'≠none) (V:l<=h) (Y:h<=q) (h3:q<=cap) : (Instr.sliceAt t (.slice a len cap) lo hi' mx).run P w=.ok (.slice (if q=l then a else a.map (·.add (l*H.size))) (h-l) (q-l)) w:=by
 unfold Instr.sliceAt;have Z:(Instr.sliceBounds true len cap lo hi' mx).run P w=.ok (l,h,q) w:=by
  unfold Instr.sliceBounds;have B :∀(k:IntKind) (c:BoundsCode) (i y:Nat),i<=y->(Instr.sliceBound (.int k (i:Int)) y c).run P w=.ok i w:=λk c i y a6=>FO (P:=P) (w:=w) (k:=k) (c:=c) (i:=(i:Int)) (y:=y) ⟨by omega,by omega⟩;rcases U with ⟨rfl,rfl⟩|⟨⟨km,rfl⟩,F⟩<;>rcases M with ⟨rfl,rfl⟩|⟨k,rfl⟩<;>rcases Q with ⟨rfl,rfl⟩|⟨k',rfl⟩
  ·simp
  ·simp[Xb0,B k' _ h q Y]
  ·simp[Xb0,B k _ l h V]
  ·simp_all
  ·exact absurd rfl F
  ·simp_all
  ·exact absurd rfl F
  simp_all
 simp[Xb0,Xae J,Instr.slice,Z,sizeOf,Xdx,K]
def BR (S:Sc)(w:B)(φ:Nat->C (Nat×Rp))(ob:Nat->C OB)(a:C AV)(v:C A):Prop:=(a=none/\v=none) \/∃x y,a=some x/\v=some y/\kI S w φ ob x y
def BR.Sg {a:C AV}{v:C A}{F:Int}{K:Int->Prop}(h:BR S w φ ob a v)(H:Du a F K) :∃i,(v=none/\i=F \/∃k,v=some (.int k i))/\K i:=by
 unfold Du at H;split at H
 ·rcases h with ⟨_,h⟩|⟨x,y,h,_⟩
  ·exact⟨F,.inl ⟨h,rfl⟩,H⟩
  simp at h
 ·rcases h with ⟨h,_⟩|⟨x,y,J,M,Q⟩
  ·simp at h
  simp only[X21] at J;subst J;exact⟨_,.inr ⟨_,by rw[M,Q.int]⟩,H⟩
 exact H.elim
def Oq {obl:O (C OB)}(hT:xD P T)(m:Mem E w S φ (λr=>obl.getD r none)){t e self r n:Nat}(hk:(T.get t).kind=.slice e){lo hi mx:C AV}{V hi' mx':C A}{vx:A}{K:AV->W->Prop} (ag:BR S w φ (λr=>obl.getD r none) lo V) (ah:BR S w φ (λr=>obl.getD r none) hi hi') (ai:BR S w φ (λr=>obl.getD r none) mx mx') (aj:mx'≠none->hi'≠none) (ak:kI S w φ (λr=>obl.getD r none) (.own r n) vx) (h:UI T e self r n lo hi mx obl K) : ∃a6 wr u,K a6 wr/\(∀r o,(r,o)∈wr->r<obl.length)/\(Instr.sliceAt t vx V hi' mx').run P w=.ok u w/\zP E w S φ (λr=>obl.getD r none) a6 wr u w:=by
 unfold UI at h;rw[En,AI,Ao] at h;obtain⟨Y,al,ob,Z,h⟩:=h;cases ob with
 | box=>simp at h
 | map=>simp at h
 | zj=>simp at h
 | gone=>simp at h
 | row e' sz es bd=>
  simp only[AI,X24] at h;obtain⟨⟨zx,an⟩,h⟩:=h;obtain rfl:=FZ.Fx an;have a7:=BS.1 zx;obtain⟨l,hl,h⟩:=ag.Sg h;obtain⟨u,hh,h⟩:=ah.Sg h;obtain⟨q,hq,⟨c1,c2,c3,c4⟩,hn,M,a8,hK⟩:=ai.Sg h;obtain⟨aa,ao⟩:=CQ Y;obtain⟨ie,z,ap,aq,_⟩:=(hT.of (Ar al)).Dg;obtain⟨g0,g1,g2,g3⟩:=m.obj r _ Z;cases ak with|own _ _ _ kk c a0 ar bb h1 be=>
  have Q:=(h1 e' sz es .no Z).2 hn;subst ar;have bf:kk<=c/\kk=es.length:=by
   refine⟨?_,by omega⟩;rcases Q with ⟨_,p2,a9,p3⟩|⟨b,cap,U,p2⟩
   ·simp only[Xcr] at p3;omega
   simp only[Xcr] at p2;obtain⟨_,p3,p4⟩:=p2;rcases g3 with ⟨f1,_⟩|⟨b',bc,vs,f,f1,f2,f3,_⟩
   ·rw[f1] at U;simp at U
   rw[f1] at U;simp only[X21,X23] at U;obtain⟨rfl,rfl⟩:=U;omega
  obtain⟨H,au,bg,ax,ay⟩ :∃H:Nat,(mx'=none/\H=c\/(∃k,mx'=some (.int k (H:Int)))/\hi'≠none)/\True/\u.toNat<=H/\H<=c:=by
   rcases hq with ⟨q1,q2⟩|⟨k,q1⟩
   ·exact⟨c,.inl ⟨q1,rfl⟩,trivial,by omega,Xak _⟩
   exact⟨q.toNat,.inr ⟨⟨k,by rw[q1];congr 2;omega⟩,aj (by rw[q1];simp)⟩,trivial,by omega,by omega⟩
  have ab:=Zi (P:=P) (w:=w) (Av hT hk) ap (a:=a0) (len:=kk) (cap:=c) (lo:=V) (hi':=hi') (mx:=mx') (l:=l.toNat) (h:=u.toNat) (q:=H)
   (hl.imp (λq=>⟨q.1,by omega⟩) λ⟨k,q⟩=>⟨k,by rw[q];congr 2;omega⟩)
   (hh.imp (λq=>⟨q.1,by omega⟩) λ⟨k,q⟩=>⟨k,by rw[q];congr 2;omega⟩) au (by omega) ax ay
  have az:M.length=u.toNat-l.toNat:=by rw[<- a8];simp;omega
  obtain⟨p,hp,ba⟩ :∃p:C (Nat×Rp),((p=none/\M=[]) \/∃b c0 c',φ r=some (b,c0)/\p=some (b,(c',c0.2+l.toNat*sz))/\M.length<=c'/\l.toNat+c'<=c0.1)/\
    ∀(φ':Nat->C (Nat×Rp)),φ' self=p->JF φ' self M.length (.slice (if H=l.toNat then a0 else a0.map (·.add (l.toNat*ie.size))) (u.toNat-l.toNat) (H-l.toNat)):=by
   by_cases ae:H=l.toNat
   ·have:M=[]:=Xag (by omega);exact⟨none,.inl ⟨rfl,this⟩,λφ' h'=>.inl ⟨h',by rw[this];rfl,a0,by rw[Xa2 ae];congr 1<;>omega⟩⟩
   rcases Q with ⟨U,p2,a9,p3⟩|⟨b,cap,U,p2⟩
   ·simp only[Xcr] at p3;omega
   simp only[Xcr] at p2;obtain⟨rfl,p3,rfl⟩:=p2;refine⟨some (b,(H-l.toNat,cap.2+l.toNat*sz)),.inr ⟨b,cap,_,U,rfl,by omega,by omega⟩,λφ' h'=>.inr ⟨b,_,h',?_⟩⟩;rw[Xa1 ae];simp only[Xcb,Addr.C8,aq,<- a7];congr 1;omega
  obtain⟨m1,k1⟩:=m.NO r self e' sz l.toNat es M p Z aa (by omega) (λi hi=>by
   subst a8
   simp) hp
  have bh:r≠self:=λhe=>by rw[he] at Z;rw[aa] at Z;simp at Z
  have F:Af (λr=>obl.getD r none) [(r,.gone),(self,.row e' sz M .no)]=zg (zg (λr=>obl.getD r none) r (some .gone)) self (some (.row e' sz M .no)):=rfl;refine⟨_,_,_,hK,λr' o' hm=>?_,ab,⟨S,_,by rw[F];exact m1,by rw[F];exact k1,?_,?_⟩⟩
  ·simp only[Xa7,X23,Xc3,Xez] at hm;rcases hm with ⟨rfl,_⟩|⟨rfl,_⟩
   ·exact Cb obl _ _ Z
   exact ao
  ·rw[F];refine .own self _ _ _ _ _ rfl az.symm (λe2 bi bj f2 J=>?_) λcs J=>by simp at J
   simp only[gS,X21,OB.row.injEq] at J;obtain⟨rfl,rfl,rfl,rfl⟩:=J;exact⟨Xak _,λ_=>ba _ (gS _ _ _)⟩
  intro r' af;simp only[AV.refs,X11] at af;subst af;rw[F];simp
def US {obl:O (C OB)}{cx:Cx}{o:z}{av:Xbq->AV}{ρ:Xbq->A}{K:AV->W->Prop}{x:Xbq}{args:Array Xbq}{argTypes:Array Nat}{f:Xdy}{F:O AV}{G:O AV->Prop} (H :∀x,kI S w φ (λr=>obl.getD r none) (av x) (ρ x)/\oA (λr=>obl.getD r none) (av x)) (ab:o.op=.call ⟨.value x,args,argTypes⟩) (Z:av x=.fn f F\/(av x=.d (.val (.func (.func f) #[] #[]))/\F=[])) (ae :∀(a6:O AV) (U:Array A),Cs (λa v=>kI S w φ (λr=>obl.getD r none) a v/\oA (λr=>obl.getD r none) a) a6 U.toList->G a6-> ∃ J wr, K J wr ∧ (∀ r o, (r, o) ∈ wr → r < obl.length) ∧ (∃ fn, P.funcs[f]? = some fn ∧ fn.name ≠ "runtime.NumGoroutine" ∧ fn.body.isSome = true) ∧ Calls P f U w λe w'=>∃v,e=.returned v/\zP E w S φ (λr=>obl.getD r none) J wr v w') (h:G (Gx cx.T av args.toList argTypes.toList++F)) :∃J wr,K J wr/\(∀r o,(r,o)∈wr->r<obl.length)/\z6 P o ρ w (zP E w S φ (λr=>obl.getD r none) J wr):=by
 have a7 :∀t x,kI S w φ (λr=>obl.getD r Xan) (H5 cx.T t (av x)) (ρ x)/\oA (λr=>obl.getD r Xan) (H5 cx.T t (av x)):=by
  intro t x;unfold H5;split
  ·rename_i hn;split
   ·have hx:=(H x).1;rw[OV hn] at hx;rw[hx.val];exact⟨.d _ _ (.nil _),A0 _ _⟩
   exact H x
  exact H x
 have V:kI S w φ (λr=>obl.getD r Xan) (.fn f F) (ρ x)/\oA (λr=>obl.getD r Xan) (.fn f F):=by
  rcases Z with Z|⟨Z,rfl⟩
  ·rw[<- Z];exact H x
  have h1:=(H x).1;rw[Z] at h1;rw[h1.val];exact⟨.fn f [] #[] (λ_=>Xck) rfl (λi Q=>by simp at Q) (λi Q=>by simp at Q),λr hr=>by simp[AV.refs,AV.refs.refsL] at hr⟩
 obtain⟨hx,af⟩:=V;generalize hv:ρ x=vx at hx;cases hx with|fn _ _ vs g hs ag hr=>
 have a8:Cs (λa v=>kI S w φ (λr=>obl.getD r Xan) a v/\oA (λr=>obl.getD r Xan) a) (Gx cx.T av args.toList argTypes.toList++F) (args.map ρ++vs).toList:=by
  rw[Array.toList_append,Array.toList_map];have h2 :∀(l:O AV) (k:O A),l.length=k.length->(∀i (Q:i<l.length) (Y:i<k.length),kI S w φ (λr=>obl.getD r Xan) l[i] k[i]/\oA (λr=>obl.getD r Xan) l[i])->
    Cs (λa v=>kI S w φ (λr=>obl.getD r Xan) a v/\oA (λr=>obl.getD r Xan) a) l k:=by
   intro l;induction l with
   | nil=>intro k hk _;cases k with|nil=>exact .nil|cons=>simp at hk
   | cons a l ih=>
    intro k hk hh;cases k with
    | nil=>simp at hk
    | cons b k=>exact .cons (hh 0 (by simp) (by simp)) (ih k (by simpa using hk) λi Q Y=>hh (i+1) (by simpa using Q) (by simpa using Y))
  have M:=h2 F vs.toList (by simp[hs]) (λi Q Y=>by
   have h1:=ag i Q;have:vs.toList[i]=g i:=by simp_all
   rw[this]
   exact⟨hr i Q,λr ah=>af r (by simpa[AV.refs] using AV.z8 F i Q r ah)⟩)
  have plain :∀l:O Xbq,Cs (λa v=>kI S w φ (λr=>obl.getD r Xan) a v/\oA (λr=>obl.getD r Xan) a) (l.map av++F) (l.map ρ++vs.toList):=by
   intro l;induction l with
   | nil=>exact M
   | cons a l ih=>exact .cons ⟨(H a).1,(H a).2⟩ ih
  generalize argTypes.toList=ts;induction args.toList generalizing ts with
  | nil=>exact M
  | cons a l ih=>
   cases ts with
   | nil=>exact plain (a::l)
   | cons t ts=>exact .cons (a7 t a) (ih ts)
 obtain⟨J,wr,g1,g2,⟨fn,g3,g4,g5⟩,g6⟩:=ae _ _ a8 h;refine⟨J,wr,g1,g2,?_⟩;have aa:(Xce ρ o).run P w=.ok (.enter f (args.map ρ++vs)) w:=by unfold Xce;rw[ab];simp[resolve,hv,Deferred.ofValue,invoke,callFunc,g3,g4];intro hb;simp[hb] at g5
 unfold z6;rw[aa];exact g6
def YT {obl:O (C OB)}{cx:Cx}{o:z}{av:Xbq->AV}{ρ:Xbq->A}{x:Xbq}{args:Array Xbq}{argTypes:Array Nat}{f:Xdy}{F:O AV}{Q:A->B->Prop} (H :∀x,kI S w φ (λr=>obl.getD r none) (av x) (ρ x)/\oA (λr=>obl.getD r none) (av x)) (Y:o.op=.call ⟨.value x,args,argTypes⟩) (Z:av x=.fn f F\/(av x=.d (.val (.func (.func f) #[] #[]))/\F=[])) (aa :∀(J:Array A),Cs (λa v=>kI S w φ (λr=>obl.getD r none) a v/\oA (λr=>obl.getD r none) a) (Gx cx.T av args.toList argTypes.toList++F) J.toList-> ((∃ fn, P.funcs[f]? = some fn ∧ fn.name ≠ "runtime.NumGoroutine" ∧ fn.body.isSome = true) ∧ Calls P f J w fun e w' => ∃ v, e = .returned v ∧ Q v w') ∨ ∃ v w', (callFunc f J).run P w = .ok (.value v) w' ∧ Q v w') : z6 P o ρ w Q := by
 have a6 :∀t x,kI S w φ (λr=>obl.getD r Xan) (H5 cx.T t (av x)) (ρ x)/\oA (λr=>obl.getD r Xan) (H5 cx.T t (av x)):=by
  intro t x;unfold H5;split
  ·rename_i hn;split
   ·have hx:=(H x).1;rw[OV hn] at hx;rw[hx.val];exact⟨.d _ _ (.nil _),A0 _ _⟩
   exact H x
  exact H x
 have U:kI S w φ (λr=>obl.getD r Xan) (.fn f F) (ρ x)/\oA (λr=>obl.getD r Xan) (.fn f F):=by
  rcases Z with Z|⟨Z,rfl⟩
  ·rw[<- Z];exact H x
  have h1:=(H x).1;rw[Z] at h1;rw[h1.val];exact⟨.fn f [] #[] (λ_=>Xck) rfl (λi M=>by simp at M) (λi M=>by simp at M),λr hr=>by simp[AV.refs,AV.refs.refsL] at hr⟩
 obtain⟨hx,ab⟩:=U;generalize hv:ρ x=vx at hx;cases hx with|fn _ _ vs g hs ae hr=>
 have a7:Cs (λa v=>kI S w φ (λr=>obl.getD r Xan) a v/\oA (λr=>obl.getD r Xan) a) (Gx cx.T av args.toList argTypes.toList++F) (args.map ρ++vs).toList:=by
  rw[Array.toList_append,Array.toList_map];have h2 :∀(l:O AV) (k:O A),l.length=k.length->(∀i (M:i<l.length) (V:i<k.length),kI S w φ (λr=>obl.getD r Xan) l[i] k[i]/\oA (λr=>obl.getD r Xan) l[i])->
    Cs (λa v=>kI S w φ (λr=>obl.getD r Xan) a v/\oA (λr=>obl.getD r Xan) a) l k:=by
   intro l;induction l with
   | nil=>intro k hk _;cases k with|nil=>exact .nil|cons=>simp at hk
   | cons a l ih=>
    intro k hk hh;cases k with
    | nil=>simp at hk
    | cons b k=>exact .cons (hh 0 (by simp) (by simp)) (ih k (by simpa using hk) λi M V=>hh (i+1) (by simpa using M) (by simpa using V))
  have K:=h2 F vs.toList (by simp[hs]) (λi M V=>by
   have h1:=ae i M;have:vs.toList[i]=g i:=by simp_all
   rw[this]
   exact⟨hr i M,λr af=>ab r (by simpa[AV.refs] using AV.z8 F i M r af)⟩)
  have plain :∀l:O Xbq,Cs (λa v=>kI S w φ (λr=>obl.getD r Xan) a v/\oA (λr=>obl.getD r Xan) a) (l.map av++F) (l.map ρ++vs.toList):=by
   intro l;induction l with
   | nil=>exact K
   | cons a l ih=>exact .cons ⟨(H a).1,(H a).2⟩ ih
  generalize argTypes.toList=ts;induction args.toList generalizing ts with
  | nil=>exact K
  | cons a l ih=>
   cases ts with
   | nil=>exact plain (a::l)
   | cons t ts=>exact .cons (a6 t a) (ih ts)
 rcases aa _ a7 with ⟨⟨fn,g3,g4,g5⟩,g6⟩|⟨v,w',h1,h2⟩;rotate_left
 ·refine z6.value (u:=v) (w':=w') ?_ h2;unfold Xce;rw[Y];simp[resolve,hv,Deferred.ofValue,invoke,h1]
 have a8:(Xce ρ o).run P w=.ok (.enter f (args.map ρ++vs)) w:=by unfold Xce;rw[Y];simp[resolve,hv,Deferred.ofValue,invoke,callFunc,g3,g4];intro hb;simp[hb] at g5
 unfold z6;rw[a8];exact g6
def IH {obl:O (C OB)}(hT:xD P T)(m:Mem E w S φ (λr=>obl.getD r none)){t r n i k:Nat}{a x:AV}{va vx:A}{K:AV->W->Prop}(aa:a=.Bp r n i k) (ha:kI S w φ (λr=>obl.getD r none) a va) (hx:kI S w φ (λr=>obl.getD r none) x vx) (h:HE T t r n i k x obl K) : ∃F wr w',K F wr/\(∀r o,(r,o)∈wr->r<obl.length)/\(Instr.storeAt t va vx).run P w=.ok () w'/\zP E w S φ (λr=>obl.getD r none) F wr Xck w':=by
 unfold HE at h;rw[AI] at h;obtain⟨J,h⟩:=h;have J:=Ar J;obtain⟨Q,wr,S',H,m',k',ab,aj,ae⟩:=Di m (z7.refl _) hx h;rw[AI,Ao] at H;obtain⟨U,q,hq,H⟩:=H;have V:Af (λr=>obl.getD r none) wr r=some q:=by
  rw[EM wr _ r λq hq e=>by
   simp only[Xa6] at U;have:=U q hq;rw[e] at this
   simp[Xe6] at this]
  exact hq
 cases q with
 | box=>simp at H
 | map=>simp at H
 | zj=>simp at H
 | gone=>simp at H
 | row e sz Y ak=>
  simp only at H;obtain⟨hn,hf,h⟩:=H;obtain rfl:=FZ.Fx hf;rw[AI] at h;obtain⟨zx,y,hy,h⟩:=h;unfold HF at h;rw[FU,HS] at h;obtain⟨Z,h⟩:=h;have af:=ab.norm;have a6:=BS.1 zx;rw[aa] at ha;cases ha with|Bp _ _ _ _ _ h1 hb hp=>
  obtain⟨_,h2⟩:=h1 _ _ _ _ hq;obtain⟨hi,b,c,ag,hv⟩:=h2 hn;have M:i<Y.length:=by omega
  have a7:y=Y[i]:=by rw[<- hy];simp[M]
  obtain⟨_,g1,_,_⟩:=m'.obj r _ V;have ah:y.cells.take k++Q.norm.cells++y.cells.drop (k+Q.norm.cells.length)=BC Y[i].cells k Q.norm.cells:=by rw[a7];rfl
  rw[ah] at h;have a8:k+Q.norm.cells.length<=sz:=by rw[a7,g1 i M] at Z;exact Z
  have fin :∀(z:D),z.cells=BC Y[i].cells k Q.norm.cells->K .dead (wr++[(r,.row e sz (Y.set i z) .no)])->∃F wr w',K F wr/\(∀r o,(r,o)∈wr->r<obl.length)/\(Instr.storeAt t va vx).run P w=.ok () w'/\zP E w S φ (λr=>obl.getD r none) F wr Xck w':=by
   intro z hz H;obtain⟨w',q1,S2,ai,q2,q3,q4,q5⟩:=IP (P:=P) m' ag V rfl (fz':=.no) rfl (t:=t) (v:=vx) (by rw[(hT.of J).L4,D.DB,a6]) (λ_ _ _ _ h=>nomatch h) af M a8 hz;refine⟨_,_,w',H,λr' o' hm=>?_,by rw[hv];exact q1,S2,ai,by rw[AQ];exact q2,by rw[AQ];exact k'.trans q3,by rw[AQ];exact q4,by rw[AQ];exact q5⟩;rcases X20.1 hm with hm|hm
   ·obtain⟨e',al,an,f',p1,_⟩:=ae r' o' hm;exact Cb obl r' _ p1
   grind
  split at h
  ·obtain⟨_,rfl,h⟩:=h;exact fin _ rfl h
  split at h
  ·rename_i z hz;rw[AI] at h;obtain⟨h0,_,rfl,h⟩:=h;refine fin z ?_ h;rw[hz];exact D.Fm (by simpa using h0)
  exact h.elim
def Ji {obl:O (C OB)}(hT:xD P T)(m:Mem E w S φ (λr=>obl.getD r none)){t r n i k Q U:Nat}{va vx:A}{K:AV->W->Prop} (ha:kI S w φ (λr=>obl.getD r none) (.Bp r n i k) va) (hx:kI S w φ (λr=>obl.getD r none) (.own Q U) vx) (V:oA (λr=>obl.getD r none) (.own Q U)) (h:HL T t r n i k Q U obl K) : ∃F wr w',K F wr/\(∀r o,(r,o)∈wr->r<obl.length)/\(Instr.storeAt t va vx).run P w=.ok () w'/\zP E w S φ (λr=>obl.getD r none) F wr Xck w':=by
 unfold HL at h;rw[AI] at h;obtain⟨J,h⟩:=h;have J:=Ar J;obtain⟨Y,wr,S',H,m',k',af,an,ag⟩:=Di m (z7.refl _) hx h;rw[AI,Ao] at H;obtain⟨Z,q,hq,H⟩:=H;have a6:Af (λr=>obl.getD r none) wr r=some q:=by
  rw[EM wr _ r λq hq e=>by
   simp only[Xa6] at Z;have:=Z q hq;rw[e] at this
   simp[Xe6] at this]
  exact hq
 cases q with
 | box=>simp at H
 | map=>simp at H
 | zj=>simp at H
 | gone=>simp at H
 | row e sz es ao=>
  simp only at H;obtain⟨hn,hf,h⟩:=H;rw[AI] at h;obtain⟨zx,y,hy,h⟩:=h;unfold HF at h;rw[FU,HS] at h;obtain⟨a7,h⟩:=h;have ah:=af.norm;have a8:=BS.1 zx;cases ha with|Bp _ _ _ _ _ h1 hb hp=>
  obtain⟨_,h2⟩:=h1 _ _ _ _ hq;obtain⟨hi,b,c,ai,hv⟩:=h2 hn;have M:i<es.length:=by omega
  have aa:y=es[i]:=by rw[<- hy];simp[M]
  obtain⟨_,g1,_,_⟩:=m'.obj r _ a6;have aj:y.cells.take k++Y.norm.cells++y.cells.drop (k+Y.norm.cells.length)=BC es[i].cells k Y.norm.cells:=by rw[aa];rfl
  rw[aj] at h;have ab:k+Y.norm.cells.length<=sz:=by rw[aa,g1 i M] at a7;exact a7
  have fin :∀(z:D),z.cells=BC es[i].cells k Y.norm.cells->K .dead (wr++[(r,.row e sz (es.set i z) (.lk i k Q U))])->∃F wr w',K F wr/\(∀r o,(r,o)∈wr->r<obl.length)/\(Instr.storeAt t va vx).run P w=.ok () w'/\zP E w S φ (λr=>obl.getD r none) F wr Xck w':=by
   intro z hz H
   obtain⟨w',q1,S2,ak,q2,q3,q4,q5⟩:=IP (P:=P) m' ai a6 hf (fz':=.lk i k Q U) rfl (t:=t) (v:=vx) (by rw[(hT.of J).L4,D.DB,a8]) (λi' j' q' n' ae=>by
    simp only[FZ.lk.injEq] at ae;obtain⟨rfl,rfl,rfl,rfl⟩:=ae;refine⟨rfl,rfl,k'.c _ (V _ (by simp[AV.refs])),?_,k'.Ke V hx⟩;cases hx with|own _ _ _ _ _ _ al=>
    rw[al];rfl) ah M ab hz
   refine⟨_,_,w',H,λr' o' hm=>?_,by rw[hv];exact q1,S2,ak,by rw[AQ];exact q2,by rw[AQ];exact k'.trans q3,by rw[AQ];exact q4,by rw[AQ];exact q5⟩;rcases X20.1 hm with hm|hm
   ·obtain⟨e',ap,aq,f',p1,_⟩:=ag r' o' hm;exact Cb obl r' _ p1
   grind
  split at h
  ·obtain⟨_,rfl,h⟩:=h;exact fin _ rfl h
  split at h
  ·rename_i z hz;rw[AI] at h;obtain⟨h0,_,rfl,h⟩:=h;refine fin z ?_ h;rw[hz];exact D.Fm (by simpa using h0)
  exact h.elim
def GP {obl:O (C OB)}{cx:Cx}(hT:xD P cx.T)(hC:Re E.wl P cx)(m:Mem E w S φ (λr=>obl.getD r none)){o:Oper}{av:Xbq->AV}{ρ:Xbq->A}{K:AV->W->Prop} (J :∀x,kI S w φ (λr=>obl.getD r none) (av x) (ρ x)/\oA (λr=>obl.getD r none) (av x)) (h:BT cx o av obl K) : ∃H wr,K H wr/\(∀r o,(r,o)∈wr->r<obl.length)/\z6 P o ρ w (zP E w S φ (λr=>obl.getD r none) H wr):=by
 have none :∀r o,(r,o)∈([]:W)->r<obl.length:=λ_ _ hm=>by simp at hm
 have a7 :∀{s:Sem A} {K:AV->Prop},GW K (s.run P w) w->(Xce ρ o=(do pure (.value (← s))))->∃H,K H/\z6 P o ρ w (zP E w S φ (λr=>obl.getD r Xan) H []):=by rintro s K ⟨u,M,Q,h3⟩ he;refine⟨_,Q,z6.value (u:=u) (w':=w) ?_ (Ll m M)⟩;rw[he,Xb0,h3,Xaw];rfl
 have Y :∀{s:Sem A} {H:AV} {u:A},s.run P w=.ok u w->kI S w φ (λr=>obl.getD r Xan) H u->oA (λr=>obl.getD r Xan) H->(Xce ρ o=(do pure (.value (← s))))->
   z6 P o ρ w (zP E w S φ (λr=>obl.getD r Xan) H []):=by
  intro s H u M Q h3 he;refine z6.value (u:=u) (w':=w) ?_ (zP.pure m Q h3);rw[he,Xb0,M,Xaw];rfl
 have aq :∀(ps:Array (Nat×Xbq)),KX S w φ (λr=>obl.getD r Xan) (ps.toList.map λ(i,x)=>(i,av x)) (ps.map λ(i,x)=>(i,ρ x)).toList:=by
  intro ps;rw[Array.toList_map];induction ps.toList with
  | nil=>exact .nil
  | cons p l ih=>exact .cons ⟨rfl,(J p.2).1,(J p.2).2⟩ ih
 have Z :∀t x,kI S w φ (λr=>obl.getD r Xan) (H5 cx.T t (av x)) (ρ x)/\oA (λr=>obl.getD r Xan) (H5 cx.T t (av x)):=by
  intro t x;unfold H5;split
  ·rename_i hn;split
   ·have hx:=(J x).1;rw[OV hn] at hx;rw[hx.val];exact⟨.d _ _ (.nil _),A0 _ _⟩
   exact J x
  exact J x
 have mv :∀x,(Xce ρ o).run P w=.ok (.value (ρ x)) w->(match x with
   | .const v=>Zw cx.T o.type (cx.np+o.dst.getD 0) (av (.const v)) obl K
   | x=>(av x).force λv=>K v [])->∃H wr,K H wr/\(∀r o,(r,o)∈wr->r<obl.length)/\z6 P o ρ w (zP E w S φ (λr=>obl.getD r Xan) H wr):=by
  intro x hm h;split at h
  ·rename_i cv;unfold Zw at h;split at h
   ·rename_i hn;have bj:=(J (.const cv)).1;rw[OV hn] at bj;have bk:=bj.val;split at h
    ·rename_i e hk;split at h
     ·rename_i hs;rw[AI] at h;obtain⟨bl,hK⟩:=h;obtain⟨ak,ay⟩:=CQ hs;obtain⟨m1,k1⟩:=m.empty (cx.np+o.dst.getD 0) e (cx.T.get e).size ak (X26 bl);refine⟨_,_,hK,λr o hm=>?_,z6.value hm ?_⟩
      ·simp_all
      exact JS (zs:=[]) m1 k1 (.inl ⟨gS _ _ _,rfl,_,bk⟩) rfl
     refine⟨_,_,h,none,z6.value hm (zP.pure m ?_ (A0 _ _))⟩;rw[bk];exact .d _ _ (.nil _)
    exact h.elim
   rw[BU] at h;exact⟨_,_,h,none,z6.value hm (zP.pure m (J _).1 (J _).2)⟩
  rw[BU] at h;exact⟨_,_,h,none,z6.value hm (zP.pure m (J x).1 (J x).2)⟩
 obtain⟨dst,op,ag,ar,after,guard⟩:=o;cases op;case move x=>exact mv x rfl h
 case assign x=>exact mv x rfl h
 case pick c a b=>
  simp only[BT] at h;unfold mM at h;split at h
  ·rename_i t c6;have hc:=(J c).1;rw[c6] at hc;have c7:=hc.bool;have hm:(Xce ρ ⟨dst,.pick c a b,ag,ar,after,guard⟩).run P w=.ok (.value (if t then ρ a else ρ b)) w:=by simp[Xce,c7,asBool]
   split at h
   ·rename_i x y ha hb;have bm:=(J a).1;rw[ha] at bm;have bo:=(J b).1;rw[hb] at bo;refine⟨_,_,h,none,z6.value hm ?_⟩;rw[bm.bool,bo.bool];have:(if t=true then Value.bool x else Value.bool y)=.bool (cond t x y):=by cases t<;>rfl
    rw[this];exact Ll m rfl
   cases t with
   | true=>simp only[BU] at h;exact⟨_,_,h,none,z6.value hm (zP.pure m (by simpa using (J a).1) (J a).2)⟩
   | false=>simp only[BU] at h;exact⟨_,_,h,none,z6.value hm (zP.pure m (by simpa using (J b).1) (J b).2)⟩
  exact h.elim
 case alloc t=>
  simp only[BT] at h;rw[AI,En] at h;obtain⟨ah,hs,hK⟩:=h;obtain⟨ak,ay⟩:=CQ hs;have az:=hT.of (Ar ah);obtain⟨i,z,hi,_,_,hz,_⟩:=az.Dg;obtain⟨⟨z1,z2⟩,z3⟩:=QU (S:=S) (w:=w) (φ:=φ) (ob:=λr=>obl.getD r Xan) hT (Ar ah) hi hz;refine⟨_,_,hK,λr o hm=>?_,z6.value (u:=.pointer (some ⟨w.heap.size,0,Xan⟩)) (w':=w.alloc (.cells z.cells t)) ?_ (Ve m t ak z1 z2 z3)⟩
  ·simp_all
  simp[Xce,jQ hi hz]
 case box t x=>
  simp only[BT] at h;rw[En] at h;obtain⟨hs,h⟩:=h;rw[HM] at h;obtain⟨l,hl,h⟩:=h;rw[AI] at h;obtain⟨ak,ay⟩:=CQ hs;obtain⟨r1,r2⟩:=Qd (J x).1 hl;refine⟨_,_,h.2,λr o hm=>?_,z6.value (u:=.pointer (some ⟨w.heap.size,0,Xan⟩)) (w':=w.alloc (.cells (ρ x).cells t)) ?_ (Ve m t ak r1 r2 (Kq (J x).2 hl))⟩
  ·simp_all
  simp[Xce,Instr.box,newVar,newRow]
 case build t ps=>simp only[BT] at h;obtain⟨H,u,M,Q,h3,h4⟩:=W5 hT (aq ps) h;exact⟨H,[],M,none,Y Q h3 h4 rfl⟩
 case buildSlice t len ps=>simp only[BT] at h;obtain⟨H,wr,u,w',M,Q,h3,h4⟩:=Oi hT m (aq ps) h;refine⟨H,wr,M,Q,z6.value (u:=u) (w':=w') ?_ h4⟩;simp[Xce,h3]
 case load t x=>simp only[BT] at h;obtain⟨H,u,M,Q,h3,h4⟩:=YP hT m (J x).1 (J x).2 (hC.1▸h);exact⟨H,[],M,none,Y Q h3 h4 rfl⟩
 case store t a x=>
  simp only[BT] at h;rcases W4 h with ⟨r,n,i,k,q,mm,U,bf,h⟩|⟨r,n,i,k,cs,U,bf,h⟩|⟨h,_⟩;rotate_left
  ·have hx:=Z t x;rw[bf] at hx;obtain⟨H,wr,w',M,Q,h3,h4⟩:=IH (P:=P) hT m U (J a).1 hx.1 h;refine⟨H,wr,M,Q,z6.skip (w':=w') ?_ h4⟩;simp[Xce,h3]
  rotate_left
  ·have hx:=Z t x;rw[bf] at hx;have ha:=(J a).1;rw[U] at ha;obtain⟨H,wr,w',M,Q,h3,h4⟩:=Ji (P:=P) hT m ha hx.1 hx.2 h;refine⟨H,wr,M,Q,z6.skip (w':=w') ?_ h4⟩;simp[Xce,h3]
  unfold Ug at h;rw[AI] at h;obtain⟨ah,h⟩:=h;have ah:=Ar ah;split at h
  ·rename_i r bg U;rw[Ao] at h;obtain⟨q,hq,h⟩:=h;cases q with
   | row=>simp at h
   | map=>simp at h
   | zj=>simp at h
   | gone=>simp at h
   | box cs=>
    simp only[HM,AI,HS] at h;obtain⟨l,hl,zx,ba,hK⟩:=h;obtain⟨r1,r2⟩:=Qd (Z t x).1 hl;have ha:=(J a).1;rw[U] at ha;obtain⟨b,c,al,hv⟩:=ha.Tp;have c8:=Kq (Z t x).2 hl;obtain⟨w',g1,g2⟩:=Rn m al hq (t:=t) (by rw[(hT.of ah).L4,BS.1 zx]) r1 r2 c8 ba;refine⟨_,_,hK,λr' o hm=>?_,z6.skip (w':=w') ?_ g2⟩
    ·grind
    simp[Xce,hv,g1]
  ·rename_i r n i k U;rw[Ao] at h;obtain⟨q,hq,h⟩:=h;cases q with
   | box=>simp at h
   | map=>simp at h
   | zj=>simp at h
   | gone=>simp at h
   | row e sz es bb=>
    simp only at h;obtain⟨hn,hf,h⟩:=h;obtain rfl:=FZ.Fx hf;split at h
    ·rename_i xd c9;rw[AI] at h;obtain⟨zx,y,hy,h⟩:=h;unfold HF at h;rw[FU,HS] at h;obtain⟨ba,h⟩:=h;have hx:=(Z t x).1;rw[c9] at hx;cases hx with|d _ _ hx=>
     have ca:=hx.norm;have ha:=(J a).1;rw[U] at ha;have bp:=BS.1 zx;cases ha with|Bp _ _ _ _ _ M hb hp=>
     obtain⟨_,Q⟩:=M _ _ _ _ hq;obtain⟨hi,b,c,al,hv⟩:=Q hn;have hi':i<es.length:=by omega
     have bq:y=es[i]:=by rw[<- hy];simp[hi']
     obtain⟨_,g1,_,_⟩:=m.obj r _ hq;have cb:y.cells.take k++xd.norm.cells++y.cells.drop (k+xd.norm.cells.length)=BC es[i].cells k xd.norm.cells:=by rw[bq];rfl
     rw[cb] at h;have bu:k+xd.norm.cells.length<=sz:=by rw[bq,g1 i hi'] at ba;exact ba
     have fin :∀(z:D),z.cells=BC es[i].cells k xd.norm.cells->K .dead [(r,.row e sz (es.set i z) .no)]->∃H wr,K H wr/\(∀r o,(r,o)∈wr->r<obl.length)/\z6 P ⟨dst,.store t a x,ag,ar,after,guard⟩ ρ w (zP E w S φ (λr=>obl.getD r Xan) H wr):=by
      intro z hz hK;obtain⟨w',q1,q2⟩:=IP m al hq rfl (fz':=.no) rfl (t:=t) (v:=ρ x) (by rw[(hT.of ah).L4,D.DB,bp]) (λ_ _ _ _ h=>nomatch h) ca hi' bu hz;refine⟨_,_,hK,λr' o hm=>?_,z6.skip (w':=w') ?_ q2⟩
      ·grind
      simp[Xce,hv,q1]
     split at h
     ·obtain⟨_,rfl,h⟩:=h;exact fin _ rfl h
     split at h
     ·rename_i z hz;rw[AI] at h;obtain⟨h0,_,rfl,h⟩:=h;refine fin z ?_ h;rw[hz];exact D.Fm (by simpa using h0)
     exact h.elim
    exact h.elim
  exact h.elim
 case nilCheck x=>
  simp only[BT] at h;have hx:=(J x).1;have hc:=(J x).2;have go :∀(hK:K (av x) []) (hm:(Xce ρ ⟨dst,.nilCheck x,ag,ar,after,guard⟩).run P w=.ok (.value (ρ x)) w),∃H wr,K H wr/\(∀r o,(r,o)∈wr->r<obl.length)/\z6 P ⟨dst,.nilCheck x,ag,ar,after,guard⟩ ρ w (zP E w S φ (λr=>obl.getD r Xan) H wr):=
   λhK hm=>⟨_,_,hK,none,z6.value hm (zP.pure m hx hc)⟩
  split at h
  ·rename_i r bg U;refine go (U▸h) ?_;rw[U] at hx;obtain⟨b,c,_,hv⟩:=hx.Tp;dsimp only[Xce];rw[hv];rfl
  ·rename_i cs U;refine go (U▸h) ?_;rw[U] at hx;generalize hv:ρ x=vx at hx;cases hx with|DM=>
   dsimp only[Xce];rw[hv];rfl
  ·rename_i r n i k U;refine go (U▸h) ?_;rw[U] at hx;generalize hv:ρ x=vx at hx;cases hx with|Bp _ _ _ _ _ _ _ hp=>
   obtain⟨a,hp⟩:=hp;dsimp only[Xce];rw[hv,hp];rfl
  ·rename_i f a8 U;refine go (U▸h) ?_;rw[U] at hx;generalize hv:ρ x=vx at hx;cases hx with|fn=>
   dsimp only[Xce];rw[hv];rfl
  ·rename_i g p q U;refine go (U▸h) ?_;rw[U] at hx;have hv:=hx.val;dsimp only[Xce];rw[hv];rfl
  exact h.elim
 case binOp op t x y ty=>simp only[BT] at h;obtain⟨H,M,Q⟩:=a7 (dX (ox:=x) (oy:=y) hT (J x).1 (J y).1 h) rfl;exact⟨H,[],M,none,Q⟩
 case unOp op t x=>simp only[BT] at h;obtain⟨H,M,Q⟩:=a7 (jS (J x).1 h) rfl;exact⟨H,[],M,none,Q⟩
 case convert src dst x=>simp only[BT] at h;obtain⟨H,M,Q⟩:=a7 (ZU hT m (J x).1 h) rfl;exact⟨H,[],M,none,Q⟩
 case fieldAddr t x i=>
  simp only[BT] at h;obtain⟨bg,s,ft,fs,h,an,hi,hs⟩:=SO hT h;have hx:=(J x).1;have hc:=(J x).2;split at h
  ·rename_i r o' U;rw[U] at hx hc;generalize hv:ρ x=vx at hx;cases hx with|ref _ _ b c al hb=>
   refine⟨_,_,h,none,Y (Lp an hi hs b o') (.ref r _ b c al hb) (λr' ai=>hc r' (by simpa[AV.refs] using ai)) ?_⟩;dsimp only[Xce];rw[hv]
  ·rename_i cs U;rw[U] at hx;simp only[HJ,Ge] at h;generalize hv:ρ x=vx at hx;cases hx with|DM _ b o' f hS hn hr=>
   refine⟨_,_,h,none,Y (Lp an hi hs b o') ?_ (λr' ai=>by simp[AV.refs] at ai) ?_⟩
   ·refine .DM _ b _ (λj=>f (bg+j)) (λj hj=>?_) (λj hj=>?_) λj hj=>?_
    ·simp only[X15,X14] at hj;rw[Xc5];exact hS _ (by omega)
    ·simp only[Xc1,Xbx];exact hn _ _
    simp only[Xc1,Xbx];exact hr _ _
   dsimp only[Xce];rw[hv]
  ·rename_i r n j k U;rw[U] at hx hc;generalize hv:ρ x=vx at hx;cases hx with|Bp _ _ _ _ _ M hb hp=>
   obtain⟨⟨ab,ao,cz⟩,hp⟩:=hp;subst hp;rw[Ao] at h;obtain⟨q,hq,h⟩:=h;cases q with
   | box cs=>simp at h
   | map=>simp at h
   | zj=>simp at h
   | gone=>simp at h
   | row e sz es bb=>
    simp only at h;obtain⟨hn,h⟩:=h;obtain⟨_,Q⟩:=M e sz es bb hq;obtain⟨hj,b,c,al,bw⟩:=Q hn;simp only[Value.pointer.injEq,X21,Addr.mk.injEq] at bw;obtain⟨rfl,rfl,rfl⟩:=bw;refine⟨_,_,h,none,Y (Lp an hi hs ab (c.2+(j*sz+k))) (.Bp r n j _ _ (λe2 cc cd f2 aj=>?_) (λcs aj=>by rw[hq] at aj;simp at aj) ⟨_,rfl⟩) (λr' ai=>hc r' (by simpa[AV.refs] using ai)) ?_⟩
    ·rw[hq] at aj;simp only[X21,OB.row.injEq] at aj;obtain⟨rfl,rfl,rfl,rfl⟩:=aj;exact⟨by omega,λ_=>⟨hj,ab,c,al,by rw[Xc5,Xc5]⟩⟩
    dsimp only[Xce];rw[hv]
  exact h.elim
 case field t x i=>simp only[BT] at h;obtain⟨H,u,M,Q,h3,h4⟩:=XR hT (J x).1 (J x).2 h;exact⟨H,[],M,none,Y Q h3 h4 rfl⟩
 case indexAddr t x y=>simp only[BT] at h;obtain⟨H,u,M,Q,h3,h4⟩:=Qa hT (J x).1 (J x).2 (J y).1 h;exact⟨H,[],M,none,Y Q h3 h4 rfl⟩
 case index t x y=>simp only[BT] at h;obtain⟨H,u,M,Q,h3,h4⟩:=Xl hT (J x).1 (J x).2 (J y).1 h;exact⟨H,[],M,none,Y Q h3 h4 rfl⟩
 case makeMap t r=>
  cases r with
  | some=>exact h.elim
  | none=>
   simp only[BT] at h;split at h
   ·rename_i k e hk;rw[En] at h;obtain⟨bi,hK⟩:=h;obtain⟨ak,ay⟩:=CQ bi;obtain⟨w',M,Q⟩:=U4 (P:=P) (t:=t) (k:=k) (e:=e) m ak;refine⟨_,_,hK,λr o hm=>?_,z6.value (w':=w') ?_ Q⟩
    ·simp only[X11,X23] at hm;rw[hm.1];exact ay
    simp[Xce,M]
   exact h.elim
 case lookup t x y ok=>simp only[BT] at h;obtain⟨H,u,M,Q,h3,h4⟩:=ZP hT m (J x).1 (J y).1 (hC.1▸h);exact⟨H,[],M,none,Y Q h3 h4 rfl⟩
 case mapUpdate t mm k v=>simp only[BT] at h;obtain⟨H,wr,w',M,Q,h3,h4⟩:=NL hT m (J mm).1 (J k).1 (J v).1 (J v).2 h;refine⟨H,wr,M,Q,z6.skip (w':=w') ?_ h4⟩;simp[Xce,h3]
 case insert t mm k v=>simp only[BT] at h;obtain⟨H,wr,w',M,Q,h3,h4⟩:=NL hT m (J mm).1 (J k).1 (J v).1 (J v).2 h;refine⟨H,wr,M,Q,z6.skip (w':=w') ?_ h4⟩;simp[Xce,h3]
 case slice t x lo hi mx=>
  cases mx with
  | none=>
   simp only[BT] at h;have bd :∀(q:C Xbq) (i:Int),(∃k,q.map av=some (.d (.val (.int k i))))->∃k,q.map ρ=some (.int k i):=by
    rintro q i ⟨k,hk⟩;cases q with
    | none=>simp at hk
    | some y=>simp only[Xcb,X21] at hk;have hy:=(J y).1;rw[hk] at hy;exact⟨k,by simp only[Xcb,hy.int]⟩
   have bn :∀(q:C Xbq),q.map av=Xan->q.map ρ=Xan:=by
    intro q hq;cases q with
    | none=>rfl
    | some y=>simp at hq
   have hb :∀(o:C AV) (aa:Int) (K:Int->Prop),Du o aa K->∃i,(o=Xan/\i=aa \/∃k,o=some (.d (.val (.int k i))))/\K i:=by
    intro o aa K hk;unfold Du at hk;split at hk
    ·exact⟨aa,.inl ⟨rfl,rfl⟩,hk⟩
    ·exact⟨_,.inr ⟨_,rfl⟩,hk⟩
    exact hk.elim
   have F :∀{e:Nat} {xa:AV},(cx.T.get t).kind=.slice e->kI S w φ (λr=>obl.getD r Xan) xa (ρ x)->Pn cx.T e xa (lo.map av) (hi.map av) obl K->
     ∃H wr,K H wr/\(∀r o,(r,o)∈wr->r<obl.length)/\z6 P ⟨dst,.slice t x lo hi Xan,ag,ar,after,guard⟩ ρ w (zP E w S φ (λr=>obl.getD r Xan) H wr):=by
    intro e xa hk a6 h;unfold Pn at h;rw[AI] at h;obtain⟨ah,h⟩:=h;obtain⟨d,wr,S',hK,m',k',hd,da,cf⟩:=Di m (z7.refl _) a6 h;obtain⟨es,l,u,rfl,hl,hh,c1,c2,c3,hK⟩:=bG hK;obtain⟨a,n,cap,hv⟩ :∃a n cap,ρ x=.slice a n cap:=by generalize ρ x=v at hd;cases hd<;>exact⟨_,_,_,rfl⟩
    rw[hv] at hd;obtain⟨e1,e2,hr⟩:=hd.part (l:=l.toNat) (h:=u.toNat) (by omega) (by omega);obtain⟨ie,z,au,bc,_⟩:=(hT.of (Ar ah)).Dg;have ae:=Im (P:=P) (w:=w) (Av hT hk) au (a:=a) (len:=n) (cap:=cap) (lo:=lo.map ρ) (hi':=hi.map ρ) (l:=l.toNat) (h:=u.toNat)
     (hl.imp (λq=>⟨bn _ q.1,by omega⟩) λq=>by
      obtain⟨k,hk⟩:=bd _ _ q
      exact⟨k,by rw[hk];congr 2;omega⟩)
     (hh.imp (λq=>⟨bn _ q.1,by omega⟩) λq=>by
      obtain⟨k,hk⟩:=bd _ _ q
      exact⟨k,by rw[hk];congr 2;omega⟩) (by omega) (by omega) e2
    refine⟨_,wr,hK,λr o hm=>?_,z6.value (u:=.slice (if cap=l.toNat then a else a.map (·.add (l.toNat*ie.size))) (u.toNat-l.toNat) (cap-l.toNat)) (w':=w) ?_ ⟨S',φ,m',k',.d _ _ ?_,A0 _ _⟩⟩
    ·obtain⟨e',db,dc,f',q1,_⟩:=cf r o hm;exact Cb obl r _ q1
    ·simp[Xce,hv,ae]
    rw[bc];exact hr
   unfold bM at h;split at h
   ·rename_i e hk;split at h
    ·rename_i r n ap;have a6:=(Z t x).1;have bx:=(Z t x).2;rw[ap] at a6 bx;rcases h with h|h|h
     ·exact F hk a6 h
     ·
      unfold cY at h;rw[AI,Ao] at h;obtain⟨ah,ob,ho,h⟩:=h;cases ob with
      | box=>simp at h
      | map=>simp at h
      | zj=>simp at h
      | gone=>simp at h
      | row e' sz es bb=>
       simp only[AI] at h;obtain⟨zx,h⟩:=h;have bz:=BS.1 zx;obtain⟨l,hl,h⟩:=hb _ _ _ h;obtain⟨u,hh,⟨c1,c2,c3⟩,hn,a,k,ha,c0,hK⟩:=hb _ _ _ h;obtain⟨ie,z,au,bc,_⟩:=(hT.of (Ar ah)).Dg;obtain⟨g0,g1,g2,g3⟩:=m.obj r _ ho;generalize hv:ρ x=vx at a6;cases a6 with|own _ _ _ kk c a0 cg ct M de=>
       have ax:=(M e' sz es bb ho).2 hn;subst cg;have dg:kk<=c/\kk=es.length:=by
        refine⟨?_,by omega⟩;rcases ax with ⟨_,p2,a9,p3⟩|⟨b,cap,p1,p2⟩
        ·simp only[Xcr] at p3;omega
        simp only[Xcr] at p2;obtain⟨_,p3,p4⟩:=p2;rcases g3 with ⟨f1,_⟩|⟨b',cu,vs,f,f1,f2,f3,_⟩
        ·rw[f1] at p1;simp at p1
        rw[f1] at p1;simp only[X21,X23] at p1;obtain⟨rfl,rfl⟩:=p1;omega
       have ae:=Im (P:=P) (w:=w) (Av hT hk) au (a:=a0) (len:=kk) (cap:=c) (lo:=lo.map ρ) (hi':=hi.map ρ) (l:=l.toNat) (h:=u.toNat)
        (hl.imp (λq=>⟨bn _ q.1,by omega⟩) λq=>by
         obtain⟨k,hk⟩:=bd _ _ q
         exact⟨k,by rw[hk];congr 2;omega⟩)
        (hh.imp (λq=>⟨bn _ q.1,by omega⟩) λq=>by
         obtain⟨k,hk⟩:=bd _ _ q
         exact⟨k,by rw[hk];congr 2;omega⟩) (by omega) (by omega) (by omega)
       refine⟨_,_,hK,none,z6.value (u:=.slice (if c=l.toNat then a0 else a0.map (·.add (l.toNat*ie.size))) (u.toNat-l.toNat) (c-l.toNat)) (w':=w) ?_ (zP.pure m (.Fc r a k n _ _ _ _ rfl c0 λe2 cc cd f2 aj=>?_) λr' ai=>bx r' (by simpa[AV.refs] using ai))⟩
       ·simp[Xce,hv,ae]
       rw[ho] at aj;simp only[X21,OB.row.injEq] at aj;obtain⟨rfl,rfl,rfl,rfl⟩:=aj;refine⟨by omega,λ_=>⟨by omega,?_,λdh=>?_⟩⟩;rotate_left
       ·have c4:l.toNat=0:=by omega
        rcases ax with ⟨p1,p2,a9,p3⟩|⟨b,cap,p1,p2⟩
        ·simp only[Xcr] at p3;obtain⟨_,_,p4⟩:=p3;refine .inl ⟨p1,by omega,a0,?_⟩;rw[c4,p4];simp;omega
        simp only[Xcr] at p2;obtain⟨rfl,p3,rfl⟩:=p2;refine .inr ⟨b,cap,p1,?_⟩;rw[c4];simp only[Nat.sub_zero,Nat.zero_mul,Xcr];refine⟨?_,by omega,by first|rfl|trivial⟩;split
        ·rfl
        simp[Addr.add]
       by_cases ch:k=0
       ·exact .inl ch
       right;rcases ax with ⟨_,p2,a9,p3⟩|⟨b,cap,p1,p2⟩
       ·omega
       simp only[Xcr] at p2;obtain⟨rfl,p3,rfl⟩:=p2;refine⟨b,cap,cap.1-l.toNat,p1,?_,by omega⟩;rw[Xa1 (by omega),c0];simp only[Xcb,Addr.C8,bc,<- bz,ha]
     ·
      have br :∀(q:C Xbq),BR S w φ (λr=>obl.getD r Xan) (q.map av) (q.map ρ):=by
       intro q;cases q with
       | none=>exact .inl ⟨rfl,rfl⟩
       | some y=>exact .inr ⟨_,_,rfl,rfl,(J y).1⟩
      obtain⟨H,wr,u,M,Q,h3,h4⟩:=Oq (P:=P) hT m hk (br lo) (br hi) (mx':=Xan) (.inl ⟨rfl,rfl⟩) (λh=>absurd rfl h) a6 h;refine⟨H,wr,M,Q,z6.value (u:=u) (w':=w) ?_ h4⟩;simp[Xce,h3]
    ·rename_i di ap;have a6:=(Z t x).1;rw[ap] at a6;rcases h with h|h
     ·exact F hk a6 h
     rw[AI] at h;obtain⟨ah,h⟩:=h;obtain⟨l,hl,h⟩:=hb _ _ _ h;obtain⟨u,hh,⟨rfl,rfl⟩,hK⟩:=hb _ _ _ h;obtain⟨ie,z,au,bc,_⟩:=(hT.of (Ar ah)).Dg;generalize hv:ρ x=vx at a6;cases a6 with|d _ _ a6=>
     cases a6 with|nil=>
     have ae:=Im (P:=P) (w:=w) (Av hT hk) au (a:=Xan) (len:=0) (cap:=0) (lo:=lo.map ρ) (hi':=hi.map ρ) (l:=0) (h:=0)
      (hl.imp (λq=>⟨bn _ q.1,rfl⟩) λq=>by
       obtain⟨k,hk⟩:=bd _ _ q
       exact⟨k,by rw[hk];rfl⟩)
      (hh.imp (λq=>⟨bn _ q.1,rfl⟩) λq=>by
       obtain⟨k,hk⟩:=bd _ _ q
       exact⟨k,by rw[hk];rfl⟩) (Xak _) (Xak _) (Xak _)
     refine⟨_,_,hK,none,z6.value (u:=.slice Xan 0 0) (w':=w) ?_ (zP.pure m (.d _ _ (.nil _)) (A0 _ _))⟩;first|(simp at ae;simp[Xce,hv,ae])|simp[Xce,hv,ae]
    exact F hk (Z t x).1 h
   ·rename_i hk;split at h
    ·rename_i s cj;have hb :∀(o:C AV) (aa:Int) (K:Int->Prop),Du o aa K->∃i,(o=Xan/\i=aa \/∃k,o=some (.d (.val (.int k i))))/\K i:=by
      intro o aa K hk;unfold Du at hk;split at hk
      ·exact⟨aa,.inl ⟨rfl,rfl⟩,hk⟩
      ·exact⟨_,.inr ⟨_,rfl⟩,hk⟩
      exact hk.elim
     obtain⟨l,hl,h⟩:=hb _ _ _ h;obtain⟨u,hh,⟨c1,c2,c3⟩,hK⟩:=hb _ _ _ h;have hx:=(Z t x).1;rw[cj] at hx;have hv:=hx.str;have az:=(hT.of (t:=t) (by rw[hk];simp[TK.Cy])).kind;rw[hk] at az;have ae:=VC (P:=P) (w:=w) (t:=t) az (s:=s) (lo:=lo.map ρ) (hi':=hi.map ρ) (l:=l.toNat) (h:=u.toNat)
      (hl.imp (λq=>⟨bn _ q.1,by omega⟩) λq=>by
       obtain⟨k,hk⟩:=bd _ _ q
       exact⟨k,by rw[hk];congr 2;omega⟩)
      (hh.imp (λq=>⟨bn _ q.1,by omega⟩) λq=>by
       obtain⟨k,hk⟩:=bd _ _ q
       exact⟨k,by rw[hk];congr 2;omega⟩) (by omega) (by omega)
     refine⟨_,_,hK,none,z6.value (u:=.string (s.extract l.toNat u.toNat)) (w':=w) ?_ (Ll m rfl)⟩;simp[Xce,hv,ae]
    exact h.elim
   exact h.elim
  | some mx=>
   simp only[BT] at h;have br :∀(q:C Xbq),BR S w φ (λr=>obl.getD r Xan) (q.map av) (q.map ρ):=by
    intro q;cases q with
    | none=>exact .inl ⟨rfl,rfl⟩
    | some y=>exact .inr ⟨_,_,rfl,rfl,(J y).1⟩
   unfold Ww at h;split at h
   ·rename_i e hk;split at h
    ·rename_i r n ap;have a6:=(J x).1;rw[ap] at a6;split at h
     ·rename_i dj c5;have bh:=br hi;rw[c5] at bh;have ck:hi.map ρ≠Xan:=by
       cases hi with
       | none=>simp at c5
       | some y=>simp
      obtain⟨H,wr,u,M,Q,h3,h4⟩:=Oq (P:=P) hT m hk (br lo) bh (mx':=some (ρ mx)) (.inr ⟨_,_,rfl,rfl,(J mx).1⟩) (λ_=>ck) a6 h;refine⟨H,wr,M,Q,z6.value (u:=u) (w':=w) ?_ h4⟩;simp[Xce,h3]
     exact h.elim
    exact h.elim
   exact h.elim
 case makeSlice t n c=>simp only[BT] at h;obtain⟨H,wr,u,w',M,Q,h3,h4⟩:=aB hT m (J n).1 (J c).1 h;refine⟨H,wr,M,Q,z6.value (u:=u) (w':=w') ?_ h4⟩;simp[Xce,h3]
 case extract x i=>
  simp only[BT] at h;have hx:=(J x).1;have hc:=(J x).2;split at h
  ·rename_i vs U;rw[U] at hx hc;split at h
   ·rename_i a hg;rw[BU] at h;generalize hv:ρ x=vx at hx;cases hx with|Ca _ us f hs hf hr=>
    obtain⟨p1,p2⟩:=X13.1 hg;refine⟨_,_,h,none,Y (s:=Instr.extract (ρ x) i) (u:=f i) ?_ (p2▸hr i p1) (λr ai=>hc r (by rw[<- p2] at ai;simpa[AV.refs] using AV.z8 vs i p1 r ai)) rfl⟩;rw[hv];simp[Instr.extract,hf i p1]
   exact h.elim
  exact h.elim
 case makeFunc fn first a8=>
  cases fn with
  | func f=>
   simp only[BT] at h;split at h
   ·rename_i be;have cm:first=#[]:=Array.toList_eq_nil_iff.1 be
    subst cm;refine⟨_,_,h,none,Y (s:=Instr.makeFunc (.func f) #[] (a8.map ρ)) (u:=.func (.func f) #[] (a8.map ρ)) rfl ?_ (λr ai=>?_) (by simp[Xce])⟩
    ·refine .fn f _ _ (λi=>ρ (a8.toList.getD i (.const Xck))) (by simp) (λi hi=>?_) λi hi=>?_
     ·have hi':i<a8.size:=by simpa using hi
      simp[hi']
     have hi':i<a8.size:=by simpa using hi
     simp only[Xb6];have:a8.toList.getD i (.const Xck)=a8.toList[i]'(by simpa using hi'):=by simp[hi']
     rw[this];exact (J _).1
    obtain⟨c,cn,cp⟩:=AV.Bs _ r (by simpa[AV.refs] using ai);obtain⟨x,_,rfl⟩:=Xau.1 cn;exact (J x).2 r cp
   exact h.elim
  | _=>exact h.elim
 case call c=>
  simp only[BT] at h;obtain⟨callee,args,argTypes⟩:=c;simp only at h;split at h
  ·
   rename_i x;obtain⟨f,a8,h,hf⟩:=Xw h;exact US (E:=E) J rfl hf (λdk cy M Q=>Zr hC.2.1 m M Q) h
  ·
   split at h
   ·rename_i x t V af;have ha:args=#[x]:=by rw[<- Xbp (xs:=args),V]
    have ht:argTypes=#[t]:=by rw[<- Xbp (xs:=argTypes),af]
    subst ha ht;obtain⟨H,M,Q⟩:=a7 (bN (ty:=ag) hT (Z t x).1 h) (by simp[Xce,resolve,invoke,builtin]);exact⟨H,[],M,none,Q⟩
   exact h.elim
  ·
   split at h
   ·rename_i x y t u V af;have ha:args=#[x,y]:=by rw[<- Xbp (xs:=args),V]
    have ht:argTypes=#[t,u]:=by rw[<- Xbp (xs:=argTypes),af]
    subst ha ht;split at h;rotate_left
    ·obtain⟨H,wr,v,w',M,Q,h3,h4⟩:=Yq (ty:=ag) hT m (Z _ x).1 (J y).1 h;refine⟨H,wr,M,Q,z6.value (u:=v) (w':=w') ?_ h4⟩;simp[Xce,resolve,invoke,builtin,h3]
    rename_i cq;have:=BS.1 cq;subst this;obtain⟨H,wr,v,w',M,Q,h3,h4⟩:=VM (ty:=ag) hT m (Z _ x).1 (Z _ y).1 h;refine⟨H,wr,M,Q,z6.value (u:=v) (w':=w') ?_ h4⟩;simp[Xce,resolve,invoke,builtin,h3]
   exact h.elim
  ·
   split at h
   ·rename_i x t V af;have ha:args=#[x]:=by rw[<- Xbp (xs:=args),V]
    have ht:argTypes=#[t]:=by rw[<- Xbp (xs:=argTypes),af]
    subst ha ht;obtain⟨H,M,Q⟩:=a7 (eO (ty:=ag) hT (Z t x).1 h) (by simp[Xce,resolve,invoke,builtin]);exact⟨H,[],M,none,Q⟩
   exact h.elim
  ·
   split at h
   ·rename_i x t V af;have ha:args=#[x]:=by rw[<- Xbp (xs:=args),V]
    have ht:argTypes=#[t]:=by rw[<- Xbp (xs:=argTypes),af]
    subst ha ht;split at h
    ·rename_i r a n mm ap;have a6:=(J x).1;rw[ap] at a6;obtain⟨H,wr,w',M,Q,h3,h4⟩:=Xz (ty:=ag) hT m a6 h;refine⟨H,wr,M,Q,z6.value (u:=.tuple #[]) (w':=w') ?_ h4⟩;simp[Xce,resolve,invoke,builtin,h3]
    exact h.elim
   exact h.elim
  ·
   split at h
   ·rename_i x y t u V af;have ha:args=#[x,y]:=by rw[<- Xbp (xs:=args),V]
    have ht:argTypes=#[t,u]:=by rw[<- Xbp (xs:=argTypes),af]
    subst ha ht;obtain⟨H,wr,v,w',M,Q,h3,h4⟩:=YD (u:=u) (ty:=ag) hT m (J x).1 (J y).1 h;refine⟨H,wr,M,Q,z6.value (u:=v) (w':=w') ?_ h4⟩;simp[Xce,resolve,invoke,builtin,h3]
   exact h.elim
  ·
   split at h
   ·rename_i x y V;have ha:args=#[x,y]:=by rw[<- Xbp (xs:=args),V]
    subst ha;obtain⟨H,M,Q⟩:=a7 (cK (J x).1 (J y).1 h argTypes ag) (by simp[Xce,resolve,invoke,builtin]);exact⟨H,[],M,none,Q⟩
   exact h.elim
  ·
   split at h
   ·rename_i x y V;have ha:args=#[x,y]:=by rw[<- Xbp (xs:=args),V]
    subst ha;obtain⟨H,M,Q⟩:=a7 (cG (J x).1 (J y).1 h argTypes ag) (by simp[Xce,resolve,invoke,builtin]);exact⟨H,[],M,none,Q⟩
   exact h.elim
  exact h.elim
 all_goals exact h.elim
def VE {obl:O (C OB)}(hT:xD P T)(m:Mem E w S φ (λr=>obl.getD r none)){st ty self r n:Nat}{V:O AV}{y:AV}{vx vy:A}{K:AV->W->Prop} (hx:kI S w φ (λr=>obl.getD r none) (.own r n) vx) (ho:obl.getD r none=some (.box V)) (hy:kI S w φ (λr=>obl.getD r none) y vy) (h:Wz T st self V y obl K) : ∃a7 wr u w',K a7 wr/\(∀r o,(r,o)∈wr->r<obl.length)/\(Xc0 #[st,st] ty #[vx,vy]).run P w=.ok u w'/\zP E w S φ (λr=>obl.getD r none) a7 wr u w':=by
 unfold Wz at h;split at h
 ·rename_i e hk;rw[En,AI] at h;simp only[X24] at h;obtain⟨Z,⟨⟨⟨c1,c2⟩,c3⟩,c4⟩,h⟩:=h;obtain⟨sz,ys,h,a6⟩:=Kr m hy h;rw[AI] at h;simp only[X24] at h;obtain⟨⟨c5,c6⟩,hb,h⟩:=h;have aj:=hZ c1;have zx:(T.get e).size=V.length:=BS.1 c2;have a8:0<(T.get e).size:=X26 c3;have bf:(T.get e).bytes<=65536:=X26 c4;have aa:sz=(T.get e).size:=BS.1 c5;subst aa;have ab:ys≠[]:=by simpa using c6
  have ak:0<ys.length:=Xbi.2 ab;obtain⟨al,an⟩:=CQ Z;have ao:=hT.of (t:=e) (by rw[aj];simp);obtain⟨i,z,F,ap,bg,hz,aq,bh,_⟩:=ao.Dg;obtain⟨b,c,vs,e0,f,f1,f2,f3,f4,f5,f6⟩:=m.obj r _ ho;cases hx with|own _ _ _ kk c0 a0 hv bi h1 ar=>
  obtain⟨rfl,b',c',a1,au⟩:=ar V ho;rw[f1] at a1;simp only[X21,X23] at a1;obtain⟨rfl,rfl⟩:=a1;rw[au];have ae:kI S w φ (λr=>obl.getD r none) (.agg V) (.agg vs):=.agg V vs f f3 f5 (λi F=>(f6 i F).1) λi F=>(f6 i F).2;obtain⟨d,wr,S1,hK,m1,k1,hd,ax,ay⟩:=Di m (z7.refl _) ae h;rw[AI] at hK;obtain⟨hw,hK⟩:=hK;obtain⟨az,Ga⟩:=hd.cells;have ba:d.cells.length=(T.get e).size:=by rw[<- az];simp only[Xe2];omega
  rcases a6.v with ⟨_,bb⟩|⟨b2,o2,bc,g,rfl,hc,hr⟩
  ·exact absurd bb ab
  have be:(1+ys.length)*i.bytes<=1000001*65536:=Nat.mul_le_mul (by omega) (by omega);have af:Xec w (1+ys.length) 1 e<=Xc7:=grownCap_le_maxLen w _ 1 e (by simp only[Xc7];omega);have bj:=grownCap_ge w (1+ys.length) 1 e;have Y:=run_append_grow (P:=P) w st ty e i z (Av hT hk) F hz ⟨b,0,none⟩ 1 1 vs.toList (by simp;omega)
   (λj v H=>by
    rw[Addr.C8,Xbc];have:cellAt w b j=some v:=by rw[BB f2];simpa using H
    exact this) ⟨b2,o2,none⟩ ys.length bc (flat ys.length (T.get e).size g) (by rw[tT,ap])
   (MU (g:=λk=>w.cell? ((⟨b2,o2,none⟩:Addr).add k)) λi j F H=>by rw[Addr.C8];have:=hc i j F H;rw[Xc5] at this;exact this)
   (by omega) (by omega) (growslice_fits (by omega) (by omega))
  obtain⟨md,kd⟩:=m1.drew;generalize J:(vs.toList.toArray++(flat ys.length (T.get e).size g).toArray++Xac z.cells (Xec w (1+ys.length) 1 e-(1+ys.length)))=cells at Y;have ag:cells.size=Xec w (1+ys.length) 1 e*(T.get e).size:=by rw[<- J];simp only[Array.size_append,Xci,size_zeroCells,aq,tT,Xba,f3,<- zx];rw[show (T.get e).size+ys.length*(T.get e).size=(1+ys.length)*(T.get e).size by rw[X29,Nat.one_mul],<- X29];congr 1;omega
  have Q :∀j,j<(T.get e).size->cells[j]?=some (f j):=by
   grind
  have U :∀i j,i<ys.length->j<(T.get e).size->cells[(i+1)*(T.get e).size+j]?=some (g i j):=by
   intro i j F H;have:(i+1)*(T.get e).size<=ys.length*(T.get e).size:=X28 _ F;rw[X29] at this⊢;rw[<- J,Xbm (by simp[tT];omega),Array.getElem?_append_right (by simp;omega)];have e2:i*(T.get e).size+1*(T.get e).size+j-vs.toList.toArray.size=i*(T.get e).size+j:=by simp;omega
   rw[e2];simpa using flat_get g F H
  obtain⟨m2,k2⟩:=md.alloc self (Xec w (1+ys.length) 1 e,0) (.row e (T.get e).size (d::ys) .no) cells e (ax.none al) (λr hr=>by simp[OB.refs] at hr) (λah=>by
   refine⟨a8,λi F=>?_,λi F j H=>?_,.inr ⟨w.heap.size,(Xec w (1+ys.length) 1 e,0),cells,λi j=>match i with
    | 0=>f j
    | i+1=>g i j,gS _ _ _,heap_alloc_new w.drew _,by simp;omega,af,Nat.le_of_eq ((Xbc _).trans ag.symm),λi j F H=>?_,λi F j H=>?_,λo _ ho=>absurd (m1.bS _ _ ho) (Xep _),λ_ _ _ _ h=>nomatch h⟩⟩
   ·cases i with
    | zero=>exact ba
    | succ i=>exact a6.zx i (by simpa using F)
   ·cases i with
    | zero=>obtain⟨u,_,q2,_⟩:=Ga j H;exact q2
    | succ i=>exact a6.na i (by simpa using F) j H
   ·cases i with
    | zero=>simpa using Q j H
    | succ i=>simpa only[Xbc] using U i j (by simpa using F) H
   cases i with
   | zero=>
    obtain⟨u,q1,_,q3⟩:=Ga j H;have bd:j<V.length:=by have:j<d.cells.length:=H;omega
    have hq:=f5 j bd;simp only[Xe2] at q1;rw[hq] at q1;simp only[X21] at q1;subst q1;exact (q3.mono kd.k).mono ah.k
   | succ i=>exact ((hr i (by simpa using F) j H).mono k1.k |>.mono kd.k).mono ah.k)
  refine⟨_,_,_,_,hK,λr' o' hm=>?_,Y,S1,_,by rw[AQ];exact m2,by rw[AQ];exact (k1.trans kd).trans k2,?_,?_⟩
  ·rcases X20.1 hm with hm|hm
   ·obtain⟨e',bk,bl,f',e1,_⟩:=ay r' o' hm;exact Cb obl r' _ e1
   simp only[X11,X23] at hm;rw[hm.1];exact an
  ·refine .own self _ _ (1+ys.length) _ (some ⟨w.heap.size,0,none⟩) rfl (Xdj _ _) (λe2 bm bn f2 M=>?_) (λV M=>?_)
   ·rw[AQ] at M;simp only[Af,gS,X21,OB.row.injEq] at M;obtain⟨rfl,rfl,rfl,rfl⟩:=M;exact⟨by simp,λ_=>.inr ⟨_,_,gS _ _ _,by rw[Xdj];rfl⟩⟩
   rw[AQ] at M;simp[Af] at M
  intro r' ai;simp only[AV.refs,X11] at ai;subst ai;rw[AQ];simp[Af]
 exact h.elim
def run_equalIn_slice_nil (w:B)(d t e:Nat)(a0:C Addr)(n c:Nat)(h:P.underlying t=some (.slice e)):(Op.equalIn (d+1) t (.slice a0 n c) (.slice none 0 0)).run P w=.ok a0.isNone w:=by have F:(underlying t).run P w=.ok (.slice e) w:=Xae h w;unfold Op.equalIn;rw[Xb0,F,Xaw];cases a0<;>rfl
def jN (w:B)(ty e:Nat)(ox oy:Xbq)(a0:C Addr)(n c:Nat)(h:P.underlying ty=some (.slice e)) : ((do eqGuard .eql ty ox oy (.slice a0 n c) (.slice none 0 0);binOp .eql ty (.slice a0 n c) (.slice none 0 0):Sem A)).run P w=.ok (.bool a0.isNone) w:=by have F:(eqGuard .eql ty ox oy (.slice a0 n c) (.slice none 0 0)).run P w=.ok () w:=rfl;have H:binOp .eql ty (.slice a0 n c) (.slice none 0 0)=(do pure (Value.bool (← Op.equal ty (.slice a0 n c) (.slice none 0 0)))):=rfl;have J:=run_equalIn_slice_nil (P:=P) w 9999 ty e a0 n c h;have K:(Op.equal ty (.slice a0 n c) (.slice none 0 0)).run P w=.ok a0.isNone w:=J;rw[Xb0,F,Xaw,H,Xb0,K,Xaw];rfl
def jf {obl:O (C OB)}{cx:Cx}(Q:xD P cx.T)(hC:Re E.wl P cx)(m:Mem E w S φ (λr=>obl.getD r none)){o:z}{av:Xbq->AV}{ρ:Xbq->A}{K:AV->W->Prop} (F :∀x,kI S w φ (λr=>obl.getD r none) (av x) (ρ x)/\oA (λr=>obl.getD r none) (av x)) (h:opX cx o av obl K) : ∃H wr,K H wr/\(∀r o,(r,o)∈wr->r<obl.length)/\z6 P o ρ w (zP E w S φ (λr=>obl.getD r none) H wr):=by
 unfold opX at h;split at h
 ·rename_i op ty x y yt J;split at h
  ·rename_i sz es M ab;split at h
   ·rename_i e hk;have hx:=(F x).1;have hy:=(F y).1;rw[M] at hx;rw[ab] at hy;have ae:=hy.val;obtain⟨a0,n,c,af,hn⟩ :∃a0 n c,ρ x=.slice a0 n c/\(a0=none->es.length=0):=by
     cases hx with|d _ _ hx=>
     generalize ρ x=vx at hx;cases hx with
     | zZ _ a a7=>exact⟨a,0,a7,rfl,λ_=>rfl⟩
     | Cg _ _ b o a7=>exact⟨_,_,_,rfl,λh=>by simp at h⟩
    have hu:P.underlying ty=some (.slice e):=by have:=(Q.of (t:=ty) (by rw[hk];simp[TK.Cy])).kind;rwa [hk] at this
    have a8:(Xce ρ o).run P w=.ok (.value (.bool a0.isNone)) w:=by
     have U:=jN (P:=P) w ty e x y a0 n c hu;have he:Xce ρ o=(do let v ← (do eqGuard .eql ty x y (ρ x) (ρ y);binOp .eql ty (ρ x) (ρ y):Sem A);pure (.value v)):=by unfold Xce;rw[J]
     rw[he,af,ae,Xb0,U,Xaw];rfl
    have aa:K (.b a0.isNone) []:=by
     cases a0 with
     | none=>exact h.2 (hn rfl)
     | some a=>exact h.1
    exact⟨_,[],aa,λ_ _ hm=>by simp at hm,z6.value (u:=.bool a0.isNone) (w':=w) a8 ⟨S,φ,m,.refl _ _ _ _,.d _ _ (.val _ rfl),A0 _ _⟩⟩
   exact h.elim
  exact GP Q hC m F h
 ·rename_i ty a x J;split at h
  ·rename_i r n i k r' n' Z M;rcases h with h|h
   ·obtain⟨H,wr,w',U,h2,h3,h4⟩:=IH (P:=P) Q m Z (F a).1 (M▸(F x).1) h;exact⟨H,wr,U,h2,z6.skip (w':=w') (by unfold Xce;rw[J];simp[h3]) h4⟩
   obtain⟨H,wr,w',U,h2,h3,h4⟩:=Ji (P:=P) Q m (Z▸(F a).1) (M▸(F x).1) (M▸(F x).2) h;exact⟨H,wr,U,h2,z6.skip (w':=w') (by unfold Xce;rw[J];simp[h3]) h4⟩
  ·rename_i r n i k cs Z M;obtain⟨H,wr,w',U,h2,h3,h4⟩:=IH (P:=P) Q m Z (F a).1 (M▸(F x).1) h;exact⟨H,wr,U,h2,z6.skip (w':=w') (by unfold Xce;rw[J];simp[h3]) h4⟩
  exact GP Q hC m F h
 ·rename_i c J;split at h
  ·rename_i V;split at h
   ·rename_i x y t u Y a6;split at h
    ·rename_i r n hx;split at h
     ·rename_i cs ho;obtain⟨callee,args,argTypes⟩:=c;simp only at V Y a6;subst V;have ha:args=#[x,y]:=by rw[<- Xbp (xs:=args),Y]
      have ht:argTypes=#[t,u]:=by rw[<- Xbp (xs:=argTypes),a6]
      subst ha ht;rw[AI] at h;obtain⟨ag,h⟩:=h;have:=BS.1 ag;subst this;obtain⟨H,wr,v,w',U,h2,h3,h4⟩:=VE (ty:=o.type) Q m (hx▸(F x).1) ho (F y).1 h;refine⟨H,wr,U,h2,z6.value (u:=v) (w':=w') ?_ h4⟩;unfold Xce;rw[J];simp[resolve,invoke,builtin,h3]
     exact GP Q hC m F h
    exact GP Q hC m F h
   exact GP Q hC m F h
  ·rename_i x V;obtain⟨f,ah,h,hf⟩:=Xw h;obtain⟨callee,args,argTypes⟩:=c;simp only at V;subst V;exact US (E:=E) F J hf (λaj ai U h2=>YA hC.2.1 m U h2) h
  exact GP Q hC m F h
 exact GP Q hC m F h
end
end Go.AX
end
