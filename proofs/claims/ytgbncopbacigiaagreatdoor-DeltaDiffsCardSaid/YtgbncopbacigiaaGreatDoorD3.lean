/-
  Texts of one proof, packed.
-/
import Derived.Test.YtgbncopbacigiaaGreatDoorD2
set_option linter.all false
set_option maxRecDepth 100000
set_option maxHeartbeats 4000000
open List renaming length_map→X10,length_append→X11,getElem?_eq_some_iff→X16,length_drop→X17,length_take→X18,length_replicate→X20,length_set→X21
open Option.some renaming injEq→X24,inj→X25
open Prod.mk renaming injEq→X26
open Go.Result renaming andThen_ok→Xa1
open Go renaming run_underlying→Xa5,Operand→Xaw
open Go.Sem renaming run_bind→Xa9,run_pure→Xbz
open Go.Builtin renaming len_→Xdk
open Go.IntKind renaming i64→Xdc
section
namespace Go.AX
section
variable {P:Program} {T:TT} {E:Env} {w:B} {S:Sc} {φ:Nat->C (Nat×Rp)} {ob:Nat->C OB}
def FM (K:AV->Prop)(r:Result A)(w:B):Prop:=∃u:A,u.oneCell'=true/\K (.d (.val u))/\r=.ok u w
def Av (op:BinOp)(t:Nat)(x y:Xaw)(k F:IntKind)(a b:Int):(eqGuard op t x y (.int k a) (.int F b)).run P w=.ok () w:=by cases op<;>rfl
def FN (op:BinOp)(t:Nat)(x y:Xaw)(a b:ByteArray):(eqGuard op t x y (.string a) (.string b)).run P w=.ok () w:=by cases op<;>rfl
def UH (op:BinOp)(t:Nat)(x y:Xaw)(a b:I):(eqGuard op t x y (.bool a) (.bool b)).run P w=.ok () w:=by cases op<;>rfl
def rW.uR {t:Nat}{fs:O (Nat×Nat×Nat)}(h:rW P t (.struct fs)):P.stoodInHeld t=false/\P.eqGuardType P.depth t=false/\ P.underlying t = some (.struct (P.fieldsOf t)) ∧ (P.fieldsOf t).toList.map (fun f => (f.offset, (P.info? f.type).map (·.size), f.type)) = fs.map (fun x => (x.1, some x.2.1, x.2.2)) ∧ ∀ f ∈ (P.fieldsOf t).toList, f.name ≠ "_" := by
 obtain⟨J,K,F,H,M,Q⟩:=h;have:P.fieldsOf t=F:=by simp[Program.fieldsOf,H]
 rw[this];exact⟨J,K,H,M,Q⟩
def run_part_plain {t:Nat}{d:TypeDesc}(H:P.underlying t=some d)(J:d.isRow=false){F:Array A}{off:Nat}{v:A}(h:F[off]?=some v):(part t F off).run P w=.ok v w:=by simp[part,Nz H,J,h]
def Iw {t:Nat}{H:TI}(F:ud P t H)(Q:H.kind.sG=some true){K:Array A}{off:Nat}:(part t K off).run P w=.ok (.agg (K.extract off (off+H.size))) w:=by
 obtain⟨d,U,V⟩:=F.kind.row Q;have M:=F.uj;cases J:P.info? t with
 | none=>simp[J] at M
 | some i=>
  have:i.size=H.size:=by simpa[J] using M
  simp[part,Nz U,V,sizeOf,typeInfo,J,this]
def Oe {F:O D}{vs:Array A}(f:Nat->A)(J:vs.size=F.length)(K :∀i,i<F.length->vs[i]?=some (f i)) (M :∀i (H:i<F.length),F[i].isAgg=false) (h :∀i (H:i<F.length),rH S w F[i] (f i)) (off n:Nat) : rH S w (.agg ((F.drop off).take n)) (.agg (vs.extract off (off+n))):=by
 refine .agg _ _ (λi=>f (off+i)) ?_ (λi H=>?_) (λi H=>?_) λi H=>?_
 ·simp[J];omega
 ·simp only[X18,X17] at H;rw[Array.getElem?_extract];rw[Xy (by omega)];exact K _ (by omega)
 ·simp only[Xbg,Xbh];exact M _ _
 simp only[Xbg,Xbh];exact h _ _
def NM (hT:rc P T) :∀(n t:Nat) (x y:D) (vx vy:A) (b:I),rH S w x vx->rH S w y vy->ub T n t x y=some b->∀d,n<=d->(Op.equalIn d t vx vy).run P w=.ok b w
 | 0,t,x,y,vx,vy,b,_,_,h,_,_=>by simp[ub] at h
 | n+1,t,x,y,vx,vy,b,hx,hy,h,d,hd=>by
  obtain⟨d,rfl⟩ :∃d',d=d'+1:=⟨d-1,by omega⟩;have ah:(T.get t).kind.sG≠none:=by intro hc;cases V:(T.get t).kind<;>simp[V,TK.sG] at hc;simp[ub,V] at h
  have ai:=hT.of ah;have H:=ai.kind;unfold ub at h;split at h
  ·rename_i V;rw[V] at H;simp only[X24] at h;subst h;cases hx;cases hy;exact run_equalIn_bool' w d t _ _ H
  ·rename_i V;rw[V] at H;split at h
   ·rename_i aj;subst aj;simp only[X24] at h;subst h;cases hx;cases hy;exact run_equalIn_int w d t _ _ _ _ H
   simp at h
  ·rename_i V;rw[V] at H;simp only[X24] at h;subst h;cases hx;cases hy;exact run_equalIn_string w d t _ _ H
  ·rename_i fs xs ys V;rw[V] at H;obtain⟨h1,h2,h3,h4,h5⟩:=H.uR;cases hx with|agg _ Y f hs hf hn hr=>
   cases hy with|agg _ Z g ak ab al ae=>
   rw[run_equalIn_struct w d t _ _ h3 h1];have key : ∀ (F : O Field) (fs : O (Nat × Nat × Nat)) (b : I), F.map (fun f => (f.offset, (P.info? f.type).map (·.size), f.type)) = fs.map (fun x => (x.1, some x.2.1, x.2.2)) → (∀ f ∈ F, f.name ≠ "_") →
     ub.eqFs (ub T n) T fs xs ys=some b->(Op.eqFields d Y Z F).run P w=.ok b w:=by
    intro F;induction F with
    | nil=>
     intro fs b hm _ J;cases fs with
     | nil=>simp[ub.eqFs] at J;subst J;rfl
     | cons=>simp at hm
    | cons fl F ih=>
     intro fs b hm af J;cases fs with
     | nil=>simp at hm
     | cons q fs=>
      obtain⟨o,s,ft⟩:=q;simp only[Xam,Xd7,X26] at hm;obtain⟨⟨a1,an,M⟩,ao⟩:=hm;simp only[ub.eqFs] at J;have a8:(T.get ft).kind.sG≠none:=by intro hc;simp[hc] at J
      have a6:=hT.of a8;have ap : fl.name ≠ "_" := af fl (by simp);have step :∀c,(∃u1 u2,(part fl.type Y fl.offset).run P w=.ok u1 w/\(part fl.type Z fl.offset).run P w=.ok u2 w/\(Op.equalIn d fl.type u1 u2).run P w=.ok c w)->
        ∀b',ub.eqFs (ub T n) T fs xs ys=some b'->(Op.eqFields d Y Z (fl::F)).run P w=.ok (c&&b') w:=by
       rintro c ⟨u1,u2,r1,r2,r3⟩ b' aq;have:=ih fs b' ao (λf hf=>af f (by simp[hf])) aq;simp only[Op.eqFields,Xy ap,Xa9,r1,r2,r3,Xa1];cases c<;>simp[this]
      cases K:(T.get ft).kind.sG with
      | none=>exact absurd K a8
      | some q=>
       cases q with
       | true=>
        simp only[K] at J;cases Q:ub T n ft (.agg ((xs.drop o).take s)) (.agg ((ys.drop o).take s)) with
        | none=>simp[Q] at J
        | some c=>
         simp only[Q] at J;cases U:ub.eqFs (ub T n) T fs xs ys with
         | none=>simp[U] at J
         | some b'=>
          simp only[U,X24] at J;subst J;have s7:(T.get ft).size=s:=by have:=a6.uj;rw[<- M,an] at this;rw[<- M];exact (X25 this).symm
          refine step c ⟨.agg (Y.extract o (o+s)),.agg (Z.extract o (o+s)),?_,?_,?_⟩ b' U
          ·rw[M,a1,<- s7];exact Iw a6 K
          ·rw[M,a1,<- s7];exact Iw a6 K
          rw[M];exact NM hT n ft _ _ _ _ c (Oe f hs hf hn hr o s) (Oe g ak ab al ae o s) Q d (by omega)
       | false=>
        simp only[K] at J;obtain⟨dd,hu,ag⟩:=a6.kind.plain K;cases a7:xs[o]? with
        | none=>simp[a7] at J
        | some x1=>
         cases aa:ys[o]? with
         | none=>simp[a7,aa] at J
         | some y1=>
          simp only[a7,aa] at J;cases Q:ub T n ft x1 y1 with
          | none=>simp[Q] at J
          | some c=>
           simp only[Q] at J;cases U:ub.eqFs (ub T n) T fs xs ys with
           | none=>simp[U] at J
           | some b'=>
            simp only[U,X24] at J;subst J;obtain⟨p1,p2⟩:=X16.1 a7;obtain⟨q1,q2⟩:=X16.1 aa;refine step c ⟨f o,g o,?_,?_,?_⟩ b' U
            ·rw[a1,M];exact run_part_plain hu ag (hf o p1)
            ·rw[a1,M];exact run_part_plain hu ag (ab o q1)
            rw[M];exact NM hT n ft _ _ _ _ c (p2▸hr o p1) (q2▸ae o q1) Q d (by omega)
   exact key _ fs b h4 h5 h
  simp at h
def Y8 (Z:rc P T){t:Nat}{x y:D}{J K:A}{b:I}{ox oy:Xaw}(M:rH S w x J)(Q:rH S w y K)(h:ub T 9 t x y=some b) : (do eqGuard .eql t ox oy J K;binOp .eql t J K:Sem A).run P w=.ok (.bool b) w/\(do eqGuard .neq t ox oy J K;binOp .neq t J K:Sem A).run P w=.ok (.bool !b) w:=by
 have H:=NM Z 9 t x y J K b M Q h 10000 (by omega);have V:(T.get t).kind.sG≠none:=by intro hc;cases U:(T.get t).kind<;>simp[U,TK.sG] at hc;simp[ub,U] at h
 have F:=(Z.of V).kind;unfold ub at h;split at h
 ·cases M;cases Q;simp[UH,binOp,Op.equal,Op.maxDepth,H]
 ·split at h
  ·rename_i Y;subst Y;cases M;cases Q;simp only[X24] at h;subst h;simp[Av,binOp,Op.intCmp,bne]
  simp at h
 ·cases M;cases Q;simp only[X24] at h;subst h;simp[FN,binOp,Op.stringOp]
 ·rename_i U;rw[U] at F;obtain⟨h1,h2,h3,h4,h5⟩:=F.uR;cases M;cases Q;constructor
  ·rw[Xa9,run_eqGuard_agg w .eql t ox oy _ _ h2,Xa1,run_eql_struct,H,Xa1]
  rw[Xa9,run_eqGuard_agg w .neq t ox oy _ _ h2,Xa1,run_neq_struct,H,Xa1]
 simp at h
def Xx (Y:rc P T){op:BinOp}{t:Nat}{x y:AV}{Q U:A}{ox oy:Xaw}{K:AV->Prop}(H:gM S w φ ob x Q)(J:gM S w φ ob y U)(h:mZ T op t x y K) : FM K ((do eqGuard op t ox oy Q U;binOp op t Q U:Sem A).run P w) w:=by
 rw[Ym] at h;unfold Yp at h;split at h
 ·obtain rfl:=H.int;obtain rfl:=J.int;obtain⟨M,r,rfl,F⟩:=h;refine⟨_,rfl,F,?_⟩;simp[Av,binOp,Op.shift,Int.not_lt.2 M]
 ·obtain rfl:=H.int;obtain rfl:=J.int;obtain⟨M,r,rfl,F⟩:=h;refine⟨_,rfl,F,?_⟩;simp[Av,binOp,Op.shift,Int.not_lt.2 M]
 ·obtain rfl:=H.str;obtain rfl:=J.str;exact⟨_,rfl,h,by simp[FN,binOp,Op.stringOp]⟩
 ·obtain rfl:=H.str;obtain rfl:=J.str;exact⟨_,rfl,h,by simp[FN,binOp,Op.stringOp]⟩
 ·obtain rfl:=H.str;obtain rfl:=J.str;rename_i a b;refine⟨_,rfl,h.2,?_⟩;have:¬ (((a.size+b.size:Nat):Int)>Xdc.max):=by
   have M:=h.1;have:Xdc.max=9223372036854775807:=by decide
   rw[this];omega
  simp only[Xa9,FN,Xa1,binOp,Op.stringOp,Xj this,Xbz]
 ·obtain rfl:=H.str;obtain rfl:=J.str;exact⟨_,rfl,h,by simp[FN,binOp,Op.stringOp]⟩
 ·obtain rfl:=H.str;obtain rfl:=J.str;exact⟨_,rfl,h,by simp[FN,binOp,Op.stringOp]⟩
 ·obtain rfl:=H.int;obtain rfl:=J.int;simp only[AH,Xe] at h;obtain⟨rfl,h⟩:=h;cases op<;>simp only at h;case add=>obtain⟨r,rfl,F⟩:=h;exact⟨_,rfl,F,by simp[Av,binOp,Op.intArith]⟩
  case sub=>obtain⟨r,rfl,F⟩:=h;exact⟨_,rfl,F,by simp[Av,binOp,Op.intArith]⟩
  case mul=>obtain⟨r,rfl,F⟩:=h;exact⟨_,rfl,F,by simp[Av,binOp,Op.intArith]⟩
  case quo=>obtain⟨V,r,rfl,F⟩:=h;exact⟨_,rfl,F,by simp[Av,binOp,Op.intDiv,V]⟩
  case rem=>obtain⟨V,r,rfl,F⟩:=h;exact⟨_,rfl,F,by simp[Av,binOp,Op.intDiv,V]⟩
  case and=>obtain⟨r,rfl,F⟩:=h;exact⟨_,rfl,F,by simp[Av,binOp,Op.intBits]⟩
  case or=>obtain⟨r,rfl,F⟩:=h;exact⟨_,rfl,F,by simp[Av,binOp,Op.intBits]⟩
  case xor=>obtain⟨r,rfl,F⟩:=h;exact⟨_,rfl,F,by simp[Av,binOp,Op.intBits]⟩
  case andNot=>obtain⟨r,rfl,F⟩:=h;exact⟨_,rfl,F,by simp[Av,binOp,Op.intBits]⟩
  case eql=>exact⟨_,rfl,h,by simp[Av,binOp,Op.intCmp]⟩
  case neq=>exact⟨_,rfl,h,by simp[Av,binOp,Op.intCmp]⟩
  case lss=>exact⟨_,rfl,h,by simp[Av,binOp,Op.intCmp]⟩
  case leq=>exact⟨_,rfl,h,by simp[Av,binOp,Op.intCmp]⟩
  case gtr=>exact⟨_,rfl,h,by simp[Av,binOp,Op.intCmp]⟩
  case geq=>exact⟨_,rfl,h,by simp[Av,binOp,Op.intCmp]⟩
  all_goals exact h.elim
 ·cases H with|d _ _ H=>cases J with|d _ _ J=>
  split at h
  ·rename_i b he;exact⟨_,rfl,h,(Y8 Y H J he).1⟩
  exact h.elim
 ·cases H with|d _ _ H=>cases J with|d _ _ J=>
  split at h
  ·rename_i b he;exact⟨_,rfl,h,(Y8 Y H J he).2⟩
  exact h.elim
 exact h.elim
def Zi {op:UnOp}{x:AV}{F:A}{K:AV->Prop}(H:gM S w φ ob x F)(h:xM op x K):FM K ((Op.unary op F).run P w) w:=by
 unfold xM at h;split at h
 ·obtain rfl:=H.bool;exact⟨_,rfl,h,rfl⟩
 ·obtain rfl:=H.int;obtain⟨r,rfl,J⟩:=h;exact⟨_,rfl,J,rfl⟩
 exact h.elim
def XH (Z:rc P T){t ty:Nat}{x:AV}{Y:A}{K:AV->Prop}(J:gM S w φ ob x Y)(h:gG T t x K) : FM K ((Xdk #[t] ty #[Y]).run P w) w:=by
 have U:(T.get t).kind.sG≠none:=by intro hc;cases H:(T.get t).kind<;>simp[H,TK.sG] at hc;simp[gG,H] at h
 have F:=(Z.of U).kind;unfold gG at h;split at h
 ·rename_i H;rw[H] at F;simp only[rW] at F;cases J with|d _ _ J=>
  obtain⟨n,Q,h⟩:=h;cases J with
  | sB=>exact⟨_,rfl,h,by subst Q;simp[Xdk,Xa5 F,goInt]⟩
  | su=>exact⟨_,rfl,h,by subst Q;simp[Xdk,Xa5 F,goInt]⟩
 ·rename_i H;rw[H] at F;simp only[rW] at F;cases J with|d _ _ J=>
  cases J with
  | nil=>exact⟨_,rfl,h,by simp[Xdk,Xa5 F,goInt]⟩
 ·rename_i H;rw[H] at F;simp only[rW] at F;obtain⟨n,Q,h⟩:=h;cases J with|own _ _ _ k c a0 V M _ _=>
  subst V M Q;exact⟨_,rfl,h,by simp[Xdk,Xa5 F,goInt]⟩
 ·rename_i H;rw[H] at F;simp only[rW] at F;obtain⟨n,Q,h⟩:=h;cases J with|th _ _ _ _ _ k c a0 V M _=>
  subst V M Q;exact⟨_,rfl,h,by simp[Xdk,Xa5 F,goInt]⟩
 ·rename_i H;rw[H] at F;simp only[rW] at F;obtain rfl:=J.str;exact⟨_,rfl,h,by simp[Xdk,Xa5 F,goInt]⟩
 ·rename_i H;rw[H] at F;simp only[rW] at F;exact⟨_,rfl,h,by simp[Xdk,Xa5 F,goInt]⟩
 exact h.elim
def XZ {x y:AV}{H J:A}{K:AV->Prop}(M:gM S w φ ob x H)(Q:gM S w φ ob y J)(h:kV [x,y] K)(ts:Array Nat)(ty:Nat):FM K ((Builtin.max_ ts ty #[H,J]).run P w) w:=by
 unfold kV at h;split at h
 ·rename_i F;simp only[Xd7,and_true] at F;obtain⟨rfl,rfl⟩:=F;obtain rfl:=M.int;obtain rfl:=Q.int;obtain⟨r,rfl,U⟩:=h;exact⟨_,rfl,U,by simp[Builtin.max_,Builtin.max2]⟩
 exact h.elim
def XV {x y:AV}{H J:A}{K:AV->Prop}(M:gM S w φ ob x H)(Q:gM S w φ ob y J)(h:jk [x,y] K)(ts:Array Nat)(ty:Nat):FM K ((Builtin.min_ ts ty #[H,J]).run P w) w:=by
 unfold jk at h;split at h
 ·rename_i F;simp only[Xd7,and_true] at F;obtain⟨rfl,rfl⟩:=F;obtain rfl:=M.int;obtain rfl:=Q.int;obtain⟨r,rfl,U⟩:=h;exact⟨_,rfl,U,by simp[Builtin.min_,Builtin.min2]⟩
 exact h.elim
end
end Go.AX
end
