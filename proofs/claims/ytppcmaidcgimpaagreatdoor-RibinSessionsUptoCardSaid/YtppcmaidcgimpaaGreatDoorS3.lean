/-
  Texts of one proof, packed.
-/
import Derived.Test.YtppcmaidcgimpaaGreatDoorS2
set_option linter.all false
set_option maxRecDepth 100000
set_option maxHeartbeats 4000000
open List renaming length_map→X6,length_append→X10,getElem?_eq_some_iff→X15,length_drop→X16,length_take→X17,length_replicate→X19,length_set→X20
open Option.some renaming injEq→X23,inj→X24
open Prod.mk renaming injEq→X25
open Go renaming run_underlying→Wo,Operand→Xau,typeInfo→Xde
open Go.Result renaming andThen_ok→Xa5
open Go.Builtin renaming len_→Xdp
open Go.Sem renaming run_bind→Xad,run_pure→Xc5
open Go.IntKind renaming i64→Xdk
section
namespace Go.AX
section
variable {P:Program} {T:TT} {E:Env} {w:B} {S:Sc} {φ:Nat->O (Nat×Rp)} {ob:Nat->O OB}
def Fa (K:AV->Prop)(r:Result A)(w:B):Prop:=∃u:A,u.oneCell'=true/\K (.d (.val u))/\r=.ok u w
def A9 (op:BinOp)(t:Nat)(x y:Xau)(k F:IntKind)(a b:Int):(eqGuard op t x y (.int k a) (.int F b)).run P w=.ok () w:=by cases op<;>rfl
def Fb (op:BinOp)(t:Nat)(x y:Xau)(a b:ByteArray):(eqGuard op t x y (.string a) (.string b)).run P w=.ok () w:=by cases op<;>rfl
def VT (op:BinOp)(t:Nat)(x y:Xau)(a b:C):(eqGuard op t x y (.bool a) (.bool b)).run P w=.ok () w:=by cases op<;>rfl
def qB.tv {t:Nat}{fs:I (Nat×Nat×Nat)}(h:qB P t (.struct fs)):P.stoodInHeld t=false/\P.eqGuardType P.depth t=false/\ P.underlying t = some (.struct (P.fieldsOf t)) ∧ (P.fieldsOf t).toList.map (fun f => (f.offset, (P.info? f.type).map (·.size), f.type)) = fs.map (fun x => (x.1, some x.2.1, x.2.2)) ∧ ∀ f ∈ (P.fieldsOf t).toList, f.name ≠ "_" := by
 obtain⟨J,K,F,H,M,Q⟩:=h;have:P.fieldsOf t=F:=by simp[Program.fieldsOf,H]
 rw[this];exact⟨J,K,H,M,Q⟩
def run_part_plain {t:Nat}{d:TypeDesc}(H:P.underlying t=some d)(J:d.isRow=false){F:Array A}{off:Nat}{v:A}(h:F[off]?=some v):(part t F off).run P w=.ok v w:=by simp[part,PD H,J,h]
def Jc {t:Nat}{H:TI}(F:sK P t H)(Q:H.kind.re=some true){K:Array A}{off:Nat}:(part t K off).run P w=.ok (.agg (K.extract off (off+H.size))) w:=by
 obtain⟨d,U,V⟩:=F.kind.row Q;have M:=F.sN;cases J:P.info? t with
 | none=>simp[J] at M
 | some i=>
  have:i.size=H.size:=by simpa[J] using M
  simp[part,PD U,V,sizeOf,Xde,J,this]
def P7 {F:I D}{J:Array A}(f:Nat->A)(K:J.size=F.length)(M :∀i,i<F.length->J[i]?=some (f i)) (Q :∀i (H:i<F.length),F[i].isAgg=false) (h :∀i (H:i<F.length),qf S w F[i] (f i)) (off n:Nat) : qf S w (.agg ((F.drop off).take n)) (.agg (J.extract off (off+n))):=by
 refine .agg _ _ (λi=>f (off+i)) ?_ (λi H=>?_) (λi H=>?_) λi H=>?_
 ·simp[K];omega
 ·simp only[X17,X16] at H;rw[Array.getElem?_extract];rw[Xl (by omega)];exact M _ (by omega)
 ·simp only[Xb7,Xb8];exact Q _ _
 simp only[Xb7,Xb8];exact h _ _
def Oe (hT:py P T) :∀(n t:Nat) (x y:D) (vx vy:A) (b:C),qf S w x vx->qf S w y vy->sI T n t x y=some b->∀d,n<=d->(Op.equalIn d t vx vy).run P w=.ok b w
 | 0,t,x,y,vx,vy,b,_,_,h,_,_=>by simp[sI] at h
 | n+1,t,x,y,vx,vy,b,hx,hy,h,d,hd=>by
  obtain⟨d,rfl⟩ :∃d',d=d'+1:=⟨d-1,by omega⟩;have ag:(T.get t).kind.re≠none:=by intro hc;cases hk:(T.get t).kind<;>simp[hk,TK.re] at hc;simp[sI,hk] at h
  have ah:=hT.of ag;have H:=ah.kind;unfold sI at h;split at h
  ·rename_i hk;rw[hk] at H;simp only[X23] at h;subst h;cases hx;cases hy;exact run_equalIn_bool' w d t _ _ H
  ·rename_i hk;rw[hk] at H;split at h
   ·rename_i ai;subst ai;simp only[X23] at h;subst h;cases hx;cases hy;exact run_equalIn_int w d t _ _ _ _ H
   simp at h
  ·rename_i hk;rw[hk] at H;simp only[X23] at h;subst h;cases hx;cases hy;exact run_equalIn_string w d t _ _ H
  ·rename_i fs xs ys hk;rw[hk] at H;obtain⟨h1,h2,h3,h4,h5⟩:=H.tv;cases hx with|agg _ V f hs hf hn hr=>
   cases hy with|agg _ Y g aj aa ak ab=>
   rw[run_equalIn_struct w d t _ _ h3 h1];have key : ∀ (F : I Field) (fs : I (Nat × Nat × Nat)) (b : C), F.map (fun f => (f.offset, (P.info? f.type).map (·.size), f.type)) = fs.map (fun x => (x.1, some x.2.1, x.2.2)) → (∀ f ∈ F, f.name ≠ "_") →
     sI.eqFs (sI T n) T fs xs ys=some b->(Op.eqFields d V Y F).run P w=.ok b w:=by
    intro F;induction F with
    | nil=>
     intro fs b hm _ J;cases fs with
     | nil=>simp[sI.eqFs] at J;subst J;rfl
     | cons=>simp at hm
    | cons fl F ih=>
     intro fs b hm ae J;cases fs with
     | nil=>simp at hm
     | cons q fs=>
      obtain⟨o,s,ft⟩:=q;simp only[Xb5,Xdb,X25] at hm;obtain⟨⟨Z,al,M⟩,an⟩:=hm;simp only[sI.eqFs] at J;have a7:(T.get ft).kind.re≠none:=by intro hc;simp[hc] at J
      have a1:=hT.of a7;have ao : fl.name ≠ "_" := ae fl (by simp);have step :∀c,(∃u1 u2,(part fl.type V fl.offset).run P w=.ok u1 w/\(part fl.type Y fl.offset).run P w=.ok u2 w/\(Op.equalIn d fl.type u1 u2).run P w=.ok c w)->
        ∀b',sI.eqFs (sI T n) T fs xs ys=some b'->(Op.eqFields d V Y (fl::F)).run P w=.ok (c&&b') w:=by
       rintro c ⟨u1,u2,r1,r2,r3⟩ b' ap;have:=ih fs b' an (λf hf=>ae f (by simp[hf])) ap;simp only[Op.eqFields,Xl ao,Xad,r1,r2,r3,Xa5];cases c<;>simp[this]
      cases K:(T.get ft).kind.re with
      | none=>exact absurd K a7
      | some q=>
       cases q with
       | true=>
        simp only[K] at J;cases Q:sI T n ft (.agg ((xs.drop o).take s)) (.agg ((ys.drop o).take s)) with
        | none=>simp[Q] at J
        | some c=>
         simp only[Q] at J;cases U:sI.eqFs (sI T n) T fs xs ys with
         | none=>simp[U] at J
         | some b'=>
          simp only[U,X23] at J;subst J;have qE:(T.get ft).size=s:=by have:=a1.sN;rw[<- M,al] at this;rw[<- M];exact (X24 this).symm
          refine step c ⟨.agg (V.extract o (o+s)),.agg (Y.extract o (o+s)),?_,?_,?_⟩ b' U
          ·rw[M,Z,<- qE];exact Jc a1 K
          ·rw[M,Z,<- qE];exact Jc a1 K
          rw[M];exact Oe hT n ft _ _ _ _ c (P7 f hs hf hn hr o s) (P7 g aj aa ak ab o s) Q d (by omega)
       | false=>
        simp only[K] at J;obtain⟨dd,hu,af⟩:=a1.kind.plain K;cases a6:xs[o]? with
        | none=>simp[a6] at J
        | some x1=>
         cases a8:ys[o]? with
         | none=>simp[a6,a8] at J
         | some y1=>
          simp only[a6,a8] at J;cases Q:sI T n ft x1 y1 with
          | none=>simp[Q] at J
          | some c=>
           simp only[Q] at J;cases U:sI.eqFs (sI T n) T fs xs ys with
           | none=>simp[U] at J
           | some b'=>
            simp only[U,X23] at J;subst J;obtain⟨p1,p2⟩:=X15.1 a6;obtain⟨q1,q2⟩:=X15.1 a8;refine step c ⟨f o,g o,?_,?_,?_⟩ b' U
            ·rw[Z,M];exact run_part_plain hu af (hf o p1)
            ·rw[Z,M];exact run_part_plain hu af (aa o q1)
            rw[M];exact Oe hT n ft _ _ _ _ c (p2▸hr o p1) (q2▸ab o q1) Q d (by omega)
   exact key _ fs b h4 h5 h
  simp at h
def Zg (Y:py P T){t:Nat}{x y:D}{J K:A}{b:C}{ox oy:Xau}(M:qf S w x J)(Q:qf S w y K)(h:sI T 9 t x y=some b) : (do eqGuard .eql t ox oy J K;binOp .eql t J K:Sem A).run P w=.ok (.bool b) w/\(do eqGuard .neq t ox oy J K;binOp .neq t J K:Sem A).run P w=.ok (.bool !b) w:=by
 have H:=Oe Y 9 t x y J K b M Q h 10000 (by omega);have U:(T.get t).kind.re≠none:=by intro hc;cases hk:(T.get t).kind<;>simp[hk,TK.re] at hc;simp[sI,hk] at h
 have F:=(Y.of U).kind;unfold sI at h;split at h
 ·cases M;cases Q;simp[VT,binOp,Op.equal,Op.maxDepth,H]
 ·split at h
  ·rename_i V;subst V;cases M;cases Q;simp only[X23] at h;subst h;simp[A9,binOp,Op.intCmp,bne]
  simp at h
 ·cases M;cases Q;simp only[X23] at h;subst h;simp[Fb,binOp,Op.stringOp]
 ·rename_i hk;rw[hk] at F;obtain⟨h1,Z,h3,h4,h5⟩:=F.tv;cases M;cases Q;constructor
  ·rw[Xad,run_eqGuard_agg w .eql t ox oy _ _ Z,Xa5,run_eql_struct,H,Xa5]
  rw[Xad,run_eqGuard_agg w .neq t ox oy _ _ Z,Xa5,run_neq_struct,H,Xa5]
 simp at h
def YZ (Y:py P T){op:BinOp}{t:Nat}{x y:AV}{Q U:A}{ox oy:Xau}{K:AV->Prop}(H:gM S w φ ob x Q)(J:gM S w φ ob y U)(h:mF T op t x y K) : Fa K ((do eqGuard op t ox oy Q U;binOp op t Q U:Sem A).run P w) w:=by
 rw[ZK] at h;unfold ZN at h;split at h
 ·obtain rfl:=H.int;obtain rfl:=J.int;obtain⟨M,r,rfl,F⟩:=h;refine⟨_,rfl,F,?_⟩;simp[A9,binOp,Op.shift,Int.not_lt.2 M]
 ·obtain rfl:=H.int;obtain rfl:=J.int;obtain⟨M,r,rfl,F⟩:=h;refine⟨_,rfl,F,?_⟩;simp[A9,binOp,Op.shift,Int.not_lt.2 M]
 ·obtain rfl:=H.str;obtain rfl:=J.str;exact⟨_,rfl,h,by simp[Fb,binOp,Op.stringOp]⟩
 ·obtain rfl:=H.str;obtain rfl:=J.str;exact⟨_,rfl,h,by simp[Fb,binOp,Op.stringOp]⟩
 ·obtain rfl:=H.str;obtain rfl:=J.str;rename_i a b;refine⟨_,rfl,h.2,?_⟩;have:¬ (((a.size+b.size:Nat):Int)>Xdk.max):=by
   have M:=h.1;have:Xdk.max=9223372036854775807:=by decide
   rw[this];omega
  simp only[Xad,Fb,Xa5,binOp,Op.stringOp,Xk this,Xc5]
 ·obtain rfl:=H.str;obtain rfl:=J.str;exact⟨_,rfl,h,by simp[Fb,binOp,Op.stringOp]⟩
 ·obtain rfl:=H.str;obtain rfl:=J.str;exact⟨_,rfl,h,by simp[Fb,binOp,Op.stringOp]⟩
 ·obtain rfl:=H.int;obtain rfl:=J.int;simp only[AD,Xh] at h;obtain⟨rfl,h⟩:=h;cases op<;>simp only at h;case add=>obtain⟨r,rfl,F⟩:=h;exact⟨_,rfl,F,by simp[A9,binOp,Op.intArith]⟩
  case sub=>obtain⟨r,rfl,F⟩:=h;exact⟨_,rfl,F,by simp[A9,binOp,Op.intArith]⟩
  case mul=>obtain⟨r,rfl,F⟩:=h;exact⟨_,rfl,F,by simp[A9,binOp,Op.intArith]⟩
  case quo=>obtain⟨V,r,rfl,F⟩:=h;exact⟨_,rfl,F,by simp[A9,binOp,Op.intDiv,V]⟩
  case rem=>obtain⟨V,r,rfl,F⟩:=h;exact⟨_,rfl,F,by simp[A9,binOp,Op.intDiv,V]⟩
  case and=>obtain⟨r,rfl,F⟩:=h;exact⟨_,rfl,F,by simp[A9,binOp,Op.intBits]⟩
  case or=>obtain⟨r,rfl,F⟩:=h;exact⟨_,rfl,F,by simp[A9,binOp,Op.intBits]⟩
  case xor=>obtain⟨r,rfl,F⟩:=h;exact⟨_,rfl,F,by simp[A9,binOp,Op.intBits]⟩
  case andNot=>obtain⟨r,rfl,F⟩:=h;exact⟨_,rfl,F,by simp[A9,binOp,Op.intBits]⟩
  case eql=>exact⟨_,rfl,h,by simp[A9,binOp,Op.intCmp]⟩
  case neq=>exact⟨_,rfl,h,by simp[A9,binOp,Op.intCmp]⟩
  case lss=>exact⟨_,rfl,h,by simp[A9,binOp,Op.intCmp]⟩
  case leq=>exact⟨_,rfl,h,by simp[A9,binOp,Op.intCmp]⟩
  case gtr=>exact⟨_,rfl,h,by simp[A9,binOp,Op.intCmp]⟩
  case geq=>exact⟨_,rfl,h,by simp[A9,binOp,Op.intCmp]⟩
  all_goals exact h.elim
 ·cases H with|d _ _ H=>cases J with|d _ _ J=>
  split at h
  ·rename_i b he;exact⟨_,rfl,h,(Zg Y H J he).1⟩
  exact h.elim
 ·cases H with|d _ _ H=>cases J with|d _ _ J=>
  split at h
  ·rename_i b he;exact⟨_,rfl,h,(Zg Y H J he).2⟩
  exact h.elim
 exact h.elim
def aM {op:UnOp}{x:AV}{F:A}{K:AV->Prop}(H:gM S w φ ob x F)(h:vX op x K):Fa K ((Op.unary op F).run P w) w:=by
 unfold vX at h;split at h
 ·obtain rfl:=H.bool;exact⟨_,rfl,h,rfl⟩
 ·obtain rfl:=H.int;obtain⟨r,rfl,J⟩:=h;exact⟨_,rfl,J,rfl⟩
 exact h.elim
def X1 (Y:py P T){t ty:Nat}{x:AV}{V:A}{K:AV->Prop}(H:gM S w φ ob x V)(h:hZ T t x K) : Fa K ((Xdp #[t] ty #[V]).run P w) w:=by
 have Q:(T.get t).kind.re≠none:=by intro Z;cases hk:(T.get t).kind<;>simp[hk,TK.re] at Z;simp[hZ,hk] at h
 have F:=(Y.of Q).kind;unfold hZ at h;split at h
 ·rename_i hk;rw[hk] at F;simp only[qB] at F;cases H with|d _ _ H=>
  obtain⟨n,M,h⟩:=h;cases H with
  | ri=>exact⟨_,rfl,h,by subst M;simp[Xdp,Wo F,goInt]⟩
  | qY=>exact⟨_,rfl,h,by subst M;simp[Xdp,Wo F,goInt]⟩
 ·rename_i hk;rw[hk] at F;simp only[qB] at F;cases H with|d _ _ H=>
  cases H with
  | nil=>exact⟨_,rfl,h,by simp[Xdp,Wo F,goInt]⟩
 ·rename_i hk;rw[hk] at F;simp only[qB] at F;obtain⟨n,M,h⟩:=h;cases H with|own _ _ _ k c a0 U J _ _=>
  subst U J M;exact⟨_,rfl,h,by simp[Xdp,Wo F,goInt]⟩
 ·rename_i hk;rw[hk] at F;simp only[qB] at F;obtain⟨n,M,h⟩:=h;cases H with|rO _ _ _ _ _ k c a0 U J _=>
  subst U J M;exact⟨_,rfl,h,by simp[Xdp,Wo F,goInt]⟩
 ·rename_i hk;rw[hk] at F;simp only[qB] at F;obtain rfl:=H.str;exact⟨_,rfl,h,by simp[Xdp,Wo F,goInt]⟩
 ·rename_i hk;rw[hk] at F;simp only[qB] at F;exact⟨_,rfl,h,by simp[Xdp,Wo F,goInt]⟩
 exact h.elim
def YE {x y:AV}{H J:A}{K:AV->Prop}(M:gM S w φ ob x H)(Q:gM S w φ ob y J)(h:kP [x,y] K)(ts:Array Nat)(ty:Nat):Fa K ((Builtin.max_ ts ty #[H,J]).run P w) w:=by
 unfold kP at h;split at h
 ·rename_i F;simp only[Xdb,and_true] at F;obtain⟨rfl,rfl⟩:=F;obtain rfl:=M.int;obtain rfl:=Q.int;obtain⟨r,rfl,U⟩:=h;exact⟨_,rfl,U,by simp[Builtin.max_,Builtin.max2]⟩
 exact h.elim
def YA {x y:AV}{H J:A}{K:AV->Prop}(M:gM S w φ ob x H)(Q:gM S w φ ob y J)(h:jp [x,y] K)(ts:Array Nat)(ty:Nat):Fa K ((Builtin.min_ ts ty #[H,J]).run P w) w:=by
 unfold jp at h;split at h
 ·rename_i F;simp only[Xdb,and_true] at F;obtain⟨rfl,rfl⟩:=F;obtain rfl:=M.int;obtain rfl:=Q.int;obtain⟨r,rfl,U⟩:=h;exact⟨_,rfl,U,by simp[Builtin.min_,Builtin.min2]⟩
 exact h.elim
end
end Go.AX
end
