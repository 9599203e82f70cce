/-
  Texts of one proof, packed.
-/
import Derived.Test.YthbbpeeghmpcfaaGreatDoorR2
set_option linter.all false
set_option maxRecDepth 100000
set_option maxHeartbeats 4000000
open List renaming length_map→X1,length_append→X2,getElem?_eq_some_iff→X13,length_drop→X14,length_take→X15,length_replicate→X17,length_set→X18
open Option.some renaming injEq→X21,inj→X22
open Prod.mk renaming injEq→X23
open Go.Builtin renaming len_→Xey
open Go renaming run_underlying→Xae,Operand→Xbq,typeInfo→Xdx
open Go.Result renaming andThen_ok→Xaw
open Go.Sem renaming run_bind→Xb0,run_pure→Xdd
open Go.IntKind renaming i64→Xda
section
namespace Go.AX
section
variable {P:Program} {T:TT} {E:Env} {w:B} {S:Sc} {φ:Nat->C (Nat×Rp)} {ob:Nat->C OB}
def GW (K:AV->Prop)(r:Result A)(w:B):Prop:=∃u:A,u.oneCell'=true/\K (.d (.val u))/\r=.ok u w
def A2 (op:BinOp)(t:Nat)(x y:Xbq)(k F:IntKind)(a b:Int):(eqGuard op t x y (.int k a) (.int F b)).run P w=.ok () w:=by cases op<;>rfl
def GX (op:BinOp)(t:Nat)(x y:Xbq)(a b:ByteArray):(eqGuard op t x y (.string a) (.string b)).run P w=.ok () w:=by cases op<;>rfl
def XY (op:BinOp)(t:Nat)(x y:Xbq)(a b:I):(eqGuard op t x y (.bool a) (.bool b)).run P w=.ok () w:=by cases op<;>rfl
def zM.Pp {t:Nat}{fs:O (Nat×Nat×Nat)}(h:zM P t (.struct fs)):P.stoodInHeld t=false/\P.eqGuardType P.depth t=false/\ P.underlying t = some (.struct (P.fieldsOf t)) ∧ (P.fieldsOf t).toList.map (fun f => (f.offset, (P.info? f.type).map (·.size), f.type)) = fs.map (fun x => (x.1, some x.2.1, x.2.2)) ∧ ∀ f ∈ (P.fieldsOf t).toList, f.name ≠ "_" := by
 obtain⟨J,K,F,H,M,Q⟩:=h;have:P.fieldsOf t=F:=by simp[Program.fieldsOf,H]
 rw[this];exact⟨J,K,H,M,Q⟩
def run_part_plain {t:Nat}{d:TypeDesc}(H:P.underlying t=some d)(J:d.isRow=false){F:Array A}{off:Nat}{v:A}(h:F[off]?=some v):(part t F off).run P w=.ok v w:=by simp[part,QN H,J,h]
def KB {t:Nat}{H:TI}(F:Lw P t H)(Q:H.kind.Cy=some true){K:Array A}{off:Nat}:(part t K off).run P w=.ok (.agg (K.extract off (off+H.size))) w:=by
 obtain⟨d,U,V⟩:=F.kind.row Q;have M:=F.L4;cases J:P.info? t with
 | none=>simp[J] at M
 | some i=>
  have:i.size=H.size:=by simpa[J] using M
  simp[part,QN U,V,sizeOf,Xdx,J,this]
def RS {F:O D}{vs:Array A}(f:Nat->A)(J:vs.size=F.length)(K :∀i,i<F.length->vs[i]?=some (f i)) (M :∀i (H:i<F.length),F[i].isAgg=false) (h :∀i (H:i<F.length),zf S w F[i] (f i)) (off n:Nat) : zf S w (.agg ((F.drop off).take n)) (.agg (vs.extract off (off+n))):=by
 refine .agg _ _ (λi=>f (off+i)) ?_ (λi H=>?_) (λi H=>?_) λi H=>?_
 ·simp[J];omega
 ·simp only[X15,X14] at H;rw[Array.getElem?_extract];rw[Xa2 (by omega)];exact K _ (by omega)
 ·simp only[Xc1,Xbx];exact M _ _
 simp only[Xc1,Xbx];exact h _ _
def PX (hT:xD P T) :∀(n t:Nat) (x y:D) (vx vy:A) (b:I),zf S w x vx->zf S w y vy->Lg T n t x y=some b->∀d,n<=d->(Op.equalIn d t vx vy).run P w=.ok b w
 | 0,t,x,y,vx,vy,b,_,_,h,_,_=>by simp[Lg] at h
 | n+1,t,x,y,vx,vy,b,hx,hy,h,d,hd=>by
  obtain⟨d,rfl⟩ :∃d',d=d'+1:=⟨d-1,by omega⟩;have ah:(T.get t).kind.Cy≠none:=by intro hc;cases hk:(T.get t).kind<;>simp[hk,TK.Cy] at hc;simp[Lg,hk] at h
  have ai:=hT.of ah;have H:=ai.kind;unfold Lg at h;split at h
  ·rename_i hk;rw[hk] at H;simp only[X21] at h;subst h;cases hx;cases hy;exact run_equalIn_bool' w d t _ _ H
  ·rename_i hk;rw[hk] at H;split at h
   ·rename_i aj;subst aj;simp only[X21] at h;subst h;cases hx;cases hy;exact run_equalIn_int w d t _ _ _ _ H
   simp at h
  ·rename_i hk;rw[hk] at H;simp only[X21] at h;subst h;cases hx;cases hy;exact run_equalIn_string w d t _ _ H
  ·rename_i fs xs ys hk;rw[hk] at H;obtain⟨h1,h2,h3,h4,h5⟩:=H.Pp;cases hx with|agg _ V f hs hf hn hr=>
   cases hy with|agg _ Y g ak ab al ae=>
   rw[run_equalIn_struct w d t _ _ h3 h1];have key : ∀ (F : O Field) (fs : O (Nat × Nat × Nat)) (b : I), F.map (fun f => (f.offset, (P.info? f.type).map (·.size), f.type)) = fs.map (fun x => (x.1, some x.2.1, x.2.2)) → (∀ f ∈ F, f.name ≠ "_") →
     Lg.eqFs (Lg T n) T fs xs ys=some b->(Op.eqFields d V Y F).run P w=.ok b w:=by
    intro F;induction F with
    | nil=>
     intro fs b hm _ J;cases fs with
     | nil=>simp[Lg.eqFs] at J;subst J;rfl
     | cons=>simp at hm
    | cons fl F ih=>
     intro fs b hm af J;cases fs with
     | nil=>simp at hm
     | cons q fs=>
      obtain⟨o,s,ft⟩:=q;simp only[Xbk,Xdo,X23] at hm;obtain⟨⟨Z,an,M⟩,ao⟩:=hm;simp only[Lg.eqFs] at J;have a8:(T.get ft).kind.Cy≠none:=by intro hc;simp[hc] at J
      have a6:=hT.of a8;have ap : fl.name ≠ "_" := af fl (by simp);have step :∀c,(∃u1 u2,(part fl.type V fl.offset).run P w=.ok u1 w/\(part fl.type Y fl.offset).run P w=.ok u2 w/\(Op.equalIn d fl.type u1 u2).run P w=.ok c w)->
        ∀b',Lg.eqFs (Lg T n) T fs xs ys=some b'->(Op.eqFields d V Y (fl::F)).run P w=.ok (c&&b') w:=by
       rintro c ⟨u1,u2,r1,r2,r3⟩ b' aq;have:=ih fs b' ao (λf hf=>af f (by simp[hf])) aq;simp only[Op.eqFields,Xa2 ap,Xb0,r1,r2,r3,Xaw];cases c<;>simp[this]
      cases K:(T.get ft).kind.Cy with
      | none=>exact absurd K a8
      | some q=>
       cases q with
       | true=>
        simp only[K] at J;cases Q:Lg T n ft (.agg ((xs.drop o).take s)) (.agg ((ys.drop o).take s)) with
        | none=>simp[Q] at J
        | some c=>
         simp only[Q] at J;cases U:Lg.eqFs (Lg T n) T fs xs ys with
         | none=>simp[U] at J
         | some b'=>
          simp only[U,X21] at J;subst J;have zx:(T.get ft).size=s:=by have:=a6.L4;rw[<- M,an] at this;rw[<- M];exact (X22 this).symm
          refine step c ⟨.agg (V.extract o (o+s)),.agg (Y.extract o (o+s)),?_,?_,?_⟩ b' U
          ·rw[M,Z,<- zx];exact KB a6 K
          ·rw[M,Z,<- zx];exact KB a6 K
          rw[M];exact PX hT n ft _ _ _ _ c (RS f hs hf hn hr o s) (RS g ak ab al ae o s) Q d (by omega)
       | false=>
        simp only[K] at J;obtain⟨dd,hu,ag⟩:=a6.kind.plain K;cases a7:xs[o]? with
        | none=>simp[a7] at J
        | some x1=>
         cases aa:ys[o]? with
         | none=>simp[a7,aa] at J
         | some y1=>
          simp only[a7,aa] at J;cases Q:Lg T n ft x1 y1 with
          | none=>simp[Q] at J
          | some c=>
           simp only[Q] at J;cases U:Lg.eqFs (Lg T n) T fs xs ys with
           | none=>simp[U] at J
           | some b'=>
            simp only[U,X21] at J;subst J;obtain⟨p1,p2⟩:=X13.1 a7;obtain⟨q1,q2⟩:=X13.1 aa;refine step c ⟨f o,g o,?_,?_,?_⟩ b' U
            ·rw[Z,M];exact run_part_plain hu ag (hf o p1)
            ·rw[Z,M];exact run_part_plain hu ag (ab o q1)
            rw[M];exact PX hT n ft _ _ _ _ c (p2▸hr o p1) (q2▸ae o q1) Q d (by omega)
   exact key _ fs b h4 h5 h
  simp at h
def iL (V:xD P T){t:Nat}{x y:D}{J vy:A}{b:I}{ox oy:Xbq}(K:zf S w x J)(M:zf S w y vy)(h:Lg T 9 t x y=some b) : (do eqGuard .eql t ox oy J vy;binOp .eql t J vy:Sem A).run P w=.ok (.bool b) w/\(do eqGuard .neq t ox oy J vy;binOp .neq t J vy:Sem A).run P w=.ok (.bool !b) w:=by
 have H:=PX V 9 t x y J vy b K M h 10000 (by omega);have Q:(T.get t).kind.Cy≠none:=by intro Z;cases hk:(T.get t).kind<;>simp[hk,TK.Cy] at Z;simp[Lg,hk] at h
 have F:=(V.of Q).kind;unfold Lg at h;split at h
 ·cases K;cases M;simp[XY,binOp,Op.equal,Op.maxDepth,H]
 ·split at h
  ·rename_i U;subst U;cases K;cases M;simp only[X21] at h;subst h;simp[A2,binOp,Op.intCmp,bne]
  simp at h
 ·cases K;cases M;simp only[X21] at h;subst h;simp[GX,binOp,Op.stringOp]
 ·rename_i hk;rw[hk] at F;obtain⟨h1,Y,h3,h4,h5⟩:=F.Pp;cases K;cases M;constructor
  ·rw[Xb0,run_eqGuard_agg w .eql t ox oy _ _ Y,Xaw,run_eql_struct,H,Xaw]
  rw[Xb0,run_eqGuard_agg w .neq t ox oy _ _ Y,Xaw,run_neq_struct,H,Xaw]
 simp at h
def dX (V:xD P T){op:BinOp}{t:Nat}{x y:AV}{Q vy:A}{ox oy:Xbq}{K:AV->Prop}(H:kI S w φ ob x Q)(J:kI S w φ ob y vy)(h:ux T op t x y K) : GW K ((do eqGuard op t ox oy Q vy;binOp op t Q vy:Sem A).run P w) w:=by
 rw[gJ] at h;unfold gQ at h;split at h
 ·obtain rfl:=H.int;obtain rfl:=J.int;obtain⟨M,r,rfl,F⟩:=h;refine⟨_,rfl,F,?_⟩;simp[A2,binOp,Op.shift,Int.not_lt.2 M]
 ·obtain rfl:=H.int;obtain rfl:=J.int;obtain⟨M,r,rfl,F⟩:=h;refine⟨_,rfl,F,?_⟩;simp[A2,binOp,Op.shift,Int.not_lt.2 M]
 ·obtain rfl:=H.str;obtain rfl:=J.str;exact⟨_,rfl,h,by simp[GX,binOp,Op.stringOp]⟩
 ·obtain rfl:=H.str;obtain rfl:=J.str;exact⟨_,rfl,h,by simp[GX,binOp,Op.stringOp]⟩
 ·obtain rfl:=H.str;obtain rfl:=J.str;rename_i a b;refine⟨_,rfl,h.2,?_⟩;have:¬ (((a.size+b.size:Nat):Int)>Xda.max):=by
   have M:=h.1;have:Xda.max=9223372036854775807:=by decide
   rw[this];omega
  simp only[Xb0,GX,Xaw,binOp,Op.stringOp,Xa1 this,Xdd]
 ·obtain rfl:=H.str;obtain rfl:=J.str;exact⟨_,rfl,h,by simp[GX,binOp,Op.stringOp]⟩
 ·obtain rfl:=H.str;obtain rfl:=J.str;exact⟨_,rfl,h,by simp[GX,binOp,Op.stringOp]⟩
 ·obtain rfl:=H.int;obtain rfl:=J.int;simp only[AI,Xy] at h;obtain⟨rfl,h⟩:=h;cases op<;>simp only at h;case add=>obtain⟨r,rfl,F⟩:=h;exact⟨_,rfl,F,by simp[A2,binOp,Op.intArith]⟩
  case sub=>obtain⟨r,rfl,F⟩:=h;exact⟨_,rfl,F,by simp[A2,binOp,Op.intArith]⟩
  case mul=>obtain⟨r,rfl,F⟩:=h;exact⟨_,rfl,F,by simp[A2,binOp,Op.intArith]⟩
  case quo=>obtain⟨U,r,rfl,F⟩:=h;exact⟨_,rfl,F,by simp[A2,binOp,Op.intDiv,U]⟩
  case rem=>obtain⟨U,r,rfl,F⟩:=h;exact⟨_,rfl,F,by simp[A2,binOp,Op.intDiv,U]⟩
  case and=>obtain⟨r,rfl,F⟩:=h;exact⟨_,rfl,F,by simp[A2,binOp,Op.intBits]⟩
  case or=>obtain⟨r,rfl,F⟩:=h;exact⟨_,rfl,F,by simp[A2,binOp,Op.intBits]⟩
  case xor=>obtain⟨r,rfl,F⟩:=h;exact⟨_,rfl,F,by simp[A2,binOp,Op.intBits]⟩
  case andNot=>obtain⟨r,rfl,F⟩:=h;exact⟨_,rfl,F,by simp[A2,binOp,Op.intBits]⟩
  case eql=>exact⟨_,rfl,h,by simp[A2,binOp,Op.intCmp]⟩
  case neq=>exact⟨_,rfl,h,by simp[A2,binOp,Op.intCmp]⟩
  case lss=>exact⟨_,rfl,h,by simp[A2,binOp,Op.intCmp]⟩
  case leq=>exact⟨_,rfl,h,by simp[A2,binOp,Op.intCmp]⟩
  case gtr=>exact⟨_,rfl,h,by simp[A2,binOp,Op.intCmp]⟩
  case geq=>exact⟨_,rfl,h,by simp[A2,binOp,Op.intCmp]⟩
  all_goals exact h.elim
 ·cases H with|d _ _ H=>cases J with|d _ _ J=>
  split at h
  ·rename_i b he;exact⟨_,rfl,h,(iL V H J he).1⟩
  exact h.elim
 ·cases H with|d _ _ H=>cases J with|d _ _ J=>
  split at h
  ·rename_i b he;exact⟨_,rfl,h,(iL V H J he).2⟩
  exact h.elim
 exact h.elim
def jS {op:UnOp}{x:AV}{F:A}{K:AV->Prop}(H:kI S w φ ob x F)(h:unK op x K):GW K ((Op.unary op F).run P w) w:=by
 unfold unK at h;split at h
 ·obtain rfl:=H.bool;exact⟨_,rfl,h,rfl⟩
 ·obtain rfl:=H.int;obtain⟨r,rfl,J⟩:=h;exact⟨_,rfl,J,rfl⟩
 exact h.elim
def bN (Y:xD P T){t ty:Nat}{x:AV}{V:A}{K:AV->Prop}(H:kI S w φ ob x V)(h:pA T t x K) : GW K ((Xey #[t] ty #[V]).run P w) w:=by
 have Q:(T.get t).kind.Cy≠none:=by intro Z;cases hk:(T.get t).kind<;>simp[hk,TK.Cy] at Z;simp[pA,hk] at h
 have F:=(Y.of Q).kind;unfold pA at h;split at h
 ·rename_i hk;rw[hk] at F;simp only[zM] at F;cases H with|d _ _ H=>
  obtain⟨n,M,h⟩:=h;cases H with
  | zZ=>exact⟨_,rfl,h,by subst M;simp[Xey,Xae F,goInt]⟩
  | Cg=>exact⟨_,rfl,h,by subst M;simp[Xey,Xae F,goInt]⟩
 ·rename_i hk;rw[hk] at F;simp only[zM] at F;cases H with|d _ _ H=>
  cases H with
  | nil=>exact⟨_,rfl,h,by simp[Xey,Xae F,goInt]⟩
 ·rename_i hk;rw[hk] at F;simp only[zM] at F;obtain⟨n,M,h⟩:=h;cases H with|own _ _ _ k c a0 U J _ _=>
  subst U J M;exact⟨_,rfl,h,by simp[Xey,Xae F,goInt]⟩
 ·rename_i hk;rw[hk] at F;simp only[zM] at F;obtain⟨n,M,h⟩:=h;cases H with|Fc _ _ _ _ _ k c a0 U J _=>
  subst U J M;exact⟨_,rfl,h,by simp[Xey,Xae F,goInt]⟩
 ·rename_i hk;rw[hk] at F;simp only[zM] at F;obtain rfl:=H.str;exact⟨_,rfl,h,by simp[Xey,Xae F,goInt]⟩
 ·rename_i hk;rw[hk] at F;simp only[zM] at F;exact⟨_,rfl,h,by simp[Xey,Xae F,goInt]⟩
 exact h.elim
def cK {x y:AV}{H vy:A}{K:AV->Prop}(J:kI S w φ ob x H)(M:kI S w φ ob y vy)(h:sc [x,y] K)(ts:Array Nat)(ty:Nat):GW K ((Builtin.max_ ts ty #[H,vy]).run P w) w:=by
 unfold sc at h;split at h
 ·rename_i F;simp only[Xdo,Xf6] at F;obtain⟨rfl,rfl⟩:=F;obtain rfl:=J.int;obtain rfl:=M.int;obtain⟨r,rfl,Q⟩:=h;exact⟨_,rfl,Q,by simp[Builtin.max_,Builtin.max2]⟩
 exact h.elim
def cG {x y:AV}{H vy:A}{K:AV->Prop}(J:kI S w φ ob x H)(M:kI S w φ ob y vy)(h:rZ [x,y] K)(ts:Array Nat)(ty:Nat):GW K ((Builtin.min_ ts ty #[H,vy]).run P w) w:=by
 unfold rZ at h;split at h
 ·rename_i F;simp only[Xdo,Xf6] at F;obtain⟨rfl,rfl⟩:=F;obtain rfl:=J.int;obtain rfl:=M.int;obtain⟨r,rfl,Q⟩:=h;exact⟨_,rfl,Q,by simp[Builtin.min_,Builtin.min2]⟩
 exact h.elim
end
end Go.AX
end
