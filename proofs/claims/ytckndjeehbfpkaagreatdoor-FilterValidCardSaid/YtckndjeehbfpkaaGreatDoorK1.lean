/-
  Texts of one proof, packed.
-/
import Derived.Test.YtckndjeehbfpkaaGreatDoorK0
import Derived.Laws.BytesArg
import Derived.Laws.DeepStrings4
import Derived.Laws.MakeOwn
set_option linter.all false
set_option maxRecDepth 100000
set_option maxHeartbeats 4000000
open List renaming length_map→X10,length_append→X11,mem_singleton→X14,getElem?_eq_getElem→X15,getElem?_eq_some_iff→X16,length_drop→X17,length_take→X18,length_replicate→X20,mem_append→X23
open Option.some renaming injEq→X24,inj→X25
open Prod.mk renaming injEq→X26
open Bool renaming and_eq_true→X27
open Nat renaming le_of_ble_eq_true→X29,eq_of_beq_eq_true→X30,mul_le_mul_right→X31,add_mul→X32
section
namespace Go.AX
section
variable {P:Program} {T:TT} {E:Env} {w:World} {S:Sc} {φ:Nat->Option (Nat×Rp)} {ob:Nat->Option OB}
def GU (K:AV->Prop)(r:Result Value)(w:World):Prop:=∃u:Value,u.oneCell'=true/\K (.d (.val u))/\r=.ok u w
theorem BP (op:BinOp)(t:Nat)(x y:Operand)(k k':IntKind)(a b:Int):(eqGuard op t x y (.int k a) (.int k' b)).run P w=.ok () w:=by
 cases op<;>rfl
theorem GP (op:BinOp)(t:Nat)(x y:Operand)(a b:ByteArray):(eqGuard op t x y (.string a) (.string b)).run P w=.ok () w:=by
 cases op<;>rfl
theorem Tn (op:BinOp)(t:Nat)(x y:Operand)(a b:Bool):(eqGuard op t x y (.bool a) (.bool b)).run P w=.ok () w:=by
 cases op<;>rfl
theorem KindOk.structF {t:Nat}{fs:List (Nat×Nat×Nat)}(h:KindOk P t (.struct fs)):P.stoodInHeld t=false/\P.eqGuardType P.depth t=false/\
  P.underlying t = some (.struct (P.fieldsOf t)) ∧ (P.fieldsOf t).toList.map (fun f => (f.offset, (P.info? f.type).map (·.size), f.type)) = fs.map (fun x => (x.1, some x.2.1, x.2.2)) ∧ ∀ f ∈ (P.fieldsOf t).toList, f.name ≠ "_" := by
 obtain⟨h1,h2,F,h3,h4,h5⟩:=h
 have:P.fieldsOf t=F:=by simp[Program.fieldsOf,h3]
 rw[this]
 exact⟨h1,h2,h3,h4,h5⟩
theorem run_part_plain {t:Nat}{d:TypeDesc}(hu:P.underlying t=some d)(hd:d.isRow=false){cs:Array Value}{off:Nat}{v:Value}(h:cs[off]?=some v):(part t cs off).run P w=.ok v w:=by
 simp[part,Og hu,hd,h]
theorem Je {t:Nat}{ti:TI}(hti:TiOk P t ti)(hc:ti.kind.cls=some true){cs:Array Value}{off:Nat}:(part t cs off).run P w=.ok (.agg (cs.extract off (off+ti.size))) w:=by
 obtain⟨d,hu,hd⟩:=hti.kind.row hc
 have hi:=hti.info1
 cases hq:P.info? t with
 | none=>simp[hq] at hi
 | some i=>
  have:i.size=ti.size:=by simpa[hq] using hi
  simp[part,Og hu,hd,sizeOf,typeInfo,hq,this]
theorem PW {cs:List D}{vs:Array Value}(f:Nat->Value)(hs:vs.size=cs.length)(hf :∀i,i<cs.length->vs[i]?=some (f i))
  (hn :∀i (hi:i<cs.length),cs[i].isAgg=false) (h :∀i (hi:i<cs.length),RepD S w cs[i] (f i)) (off n:Nat) :
  RepD S w (.agg ((cs.drop off).take n)) (.agg (vs.extract off (off+n))):=by
 refine .agg _ _ (fun i=>f (off+i)) ?_ (fun i hi=>?_) (fun i hi=>?_) fun i hi=>?_
 ·simp[hs];omega
 ·simp only[X18,X17] at hi
  rw[Array.getElem?_extract]
  rw[if_pos (by omega)]
  exact hf _ (by omega)
 ·simp only[List.getElem_take,List.getElem_drop]
  exact hn _ _
 simp only[List.getElem_take,List.getElem_drop]
 exact h _ _
theorem O0 (hT:TabOk P T) :∀(n t:Nat) (x y:D) (vx vy:Value) (b:Bool),RepD S w x vx->RepD S w y vy->eqD T n t x y=some b->∀d,n<=d->(Op.equalIn d t vx vy).run P w=.ok b w
 | 0,t,x,y,vx,vy,b,_,_,h,_,_=>by simp[eqD] at h
 | n+1,t,x,y,vx,vy,b,hx,hy,h,d,hd=>by
  obtain⟨d,rfl⟩ :∃d',d=d'+1:=⟨d-1,by omega⟩
  have hcl:(T.get t).kind.cls≠none:=by
   intro hc
   cases hk:(T.get t).kind<;>simp[hk,TK.cls] at hc
   simp[eqD,hk] at h
  have hti:=hT.of hcl
  have hkind:=hti.kind
  unfold eqD at h
  split at h
  ·rename_i hk
   rw[hk] at hkind
   simp only[X24] at h
   subst h
   cases hx;cases hy
   exact run_equalIn_bool' w d t _ _ hkind
  ·rename_i hk
   rw[hk] at hkind
   split at h
   ·rename_i hkk
    subst hkk
    simp only[X24] at h
    subst h
    cases hx;cases hy
    exact run_equalIn_int w d t _ _ _ _ hkind
   simp at h
  ·rename_i hk
   rw[hk] at hkind
   simp only[X24] at h
   subst h
   cases hx;cases hy
   exact run_equalIn_string w d t _ _ hkind
  ·rename_i fs xs ys hk
   rw[hk] at hkind
   obtain⟨h1,h2,h3,h4,h5⟩:=hkind.structF
   cases hx with | agg _ vxs f hs hf hn hr=>
   cases hy with | agg _ vys g hs' hf' hn' hr'=>
   rw[run_equalIn_struct w d t _ _ h3 h1]
   have key : ∀ (F : List Field) (fs : List (Nat × Nat × Nat)) (b : Bool), F.map (fun f => (f.offset, (P.info? f.type).map (·.size), f.type)) = fs.map (fun x => (x.1, some x.2.1, x.2.2)) → (∀ f ∈ F, f.name ≠ "_") →
     eqD.eqFs (eqD T n) T fs xs ys=some b->(Op.eqFields d vxs vys F).run P w=.ok b w:=by
    intro F
    induction F with
    | nil=>
     intro fs b hm _ he
     cases fs with
     | nil=>simp[eqD.eqFs] at he;subst he;rfl
     | cons=>simp at hm
    | cons fl F ih=>
     intro fs b hm hnm he
     cases fs with
     | nil=>simp at hm
     | cons q fs=>
      obtain⟨o,s,ft⟩:=q
      simp only[List.map_cons,List.cons.injEq,X26] at hm
      obtain⟨⟨hm1,hm2,hm3⟩,hm4⟩:=hm
      simp only[eqD.eqFs] at he
      have hftc:(T.get ft).kind.cls≠none:=by intro hc;simp[hc] at he
      have htf:=hT.of hftc
      have hne : fl.name ≠ "_" := hnm fl (by simp)
      have step :∀c,(∃u1 u2,(part fl.type vxs fl.offset).run P w=.ok u1 w/\(part fl.type vys fl.offset).run P w=.ok u2 w/\(Op.equalIn d fl.type u1 u2).run P w=.ok c w)->
        ∀b',eqD.eqFs (eqD T n) T fs xs ys=some b'->(Op.eqFields d vxs vys (fl::F)).run P w=.ok (c&&b') w:=by
       rintro c ⟨u1,u2,r1,r2,r3⟩ b' hb'
       have:=ih fs b' hm4 (fun f hf=>hnm f (by simp[hf])) hb'
       simp only[Op.eqFields,if_pos hne,Sem.run_bind,r1,r2,r3,Result.andThen_ok]
       cases c<;>simp[this]
      cases hcl2:(T.get ft).kind.cls with
      | none=>exact absurd hcl2 hftc
      | some q=>
       cases q with
       | true=>
        simp only[hcl2] at he
        cases he1:eqD T n ft (.agg ((xs.drop o).take s)) (.agg ((ys.drop o).take s)) with
        | none=>simp[he1] at he
        | some c=>
         simp only[he1] at he
         cases he2:eqD.eqFs (eqD T n) T fs xs ys with
         | none=>simp[he2] at he
         | some b'=>
          simp only[he2,X24] at he
          subst he
          have hsz:(T.get ft).size=s:=by
           have:=htf.info1
           rw[<- hm3,hm2] at this
           rw[<- hm3]
           exact (X25 this).symm
          refine step c ⟨.agg (vxs.extract o (o+s)),.agg (vys.extract o (o+s)),?_,?_,?_⟩ b' he2
          ·rw[hm3,hm1,<- hsz];exact Je htf hcl2
          ·rw[hm3,hm1,<- hsz];exact Je htf hcl2
          rw[hm3]
          exact O0 hT n ft _ _ _ _ c (PW f hs hf hn hr o s) (PW g hs' hf' hn' hr' o s) he1 d (by omega)
       | false=>
        simp only[hcl2] at he
        obtain⟨dd,hu,hdd⟩:=htf.kind.plain hcl2
        cases hx1:xs[o]? with
        | none=>simp[hx1] at he
        | some x1=>
         cases hy1:ys[o]? with
         | none=>simp[hx1,hy1] at he
         | some y1=>
          simp only[hx1,hy1] at he
          cases he1:eqD T n ft x1 y1 with
          | none=>simp[he1] at he
          | some c=>
           simp only[he1] at he
           cases he2:eqD.eqFs (eqD T n) T fs xs ys with
           | none=>simp[he2] at he
           | some b'=>
            simp only[he2,X24] at he
            subst he
            obtain⟨p1,p2⟩:=X16.1 hx1
            obtain⟨q1,q2⟩:=X16.1 hy1
            refine step c ⟨f o,g o,?_,?_,?_⟩ b' he2
            ·rw[hm1,hm3];exact run_part_plain hu hdd (hf o p1)
            ·rw[hm1,hm3];exact run_part_plain hu hdd (hf' o q1)
            rw[hm3]
            exact O0 hT n ft _ _ _ _ c (p2 ▸ hr o p1) (q2 ▸ hr' o q1) he1 d (by omega)
   exact key _ fs b h4 h5 h
  simp at h
theorem Xu (hT:TabOk P T){t:Nat}{x y:D}{vx vy:Value}{b:Bool}{ox oy:Operand}(hx:RepD S w x vx)(hy:RepD S w y vy)(h:eqD T 9 t x y=some b) :
  (do eqGuard .eql t ox oy vx vy;binOp .eql t vx vy:Sem Value).run P w=.ok (.bool b) w/\(do eqGuard .neq t ox oy vx vy;binOp .neq t vx vy:Sem Value).run P w=.ok (.bool !b) w:=by
 have heq:=O0 hT 9 t x y vx vy b hx hy h 10000 (by omega)
 have hcl:(T.get t).kind.cls≠none:=by
  intro hc
  cases hk:(T.get t).kind<;>simp[hk,TK.cls] at hc
  simp[eqD,hk] at h
 have hkind:=(hT.of hcl).kind
 unfold eqD at h
 split at h
 ·cases hx;cases hy
  simp[Tn,binOp,Op.equal,Op.maxDepth,heq]
 ·split at h
  ·rename_i hkk
   subst hkk
   cases hx;cases hy
   simp only[X24] at h
   subst h
   simp[BP,binOp,Op.intCmp,bne]
  simp at h
 ·cases hx;cases hy
  simp only[X24] at h
  subst h
  simp[GP,binOp,Op.stringOp]
 ·rename_i hk
  rw[hk] at hkind
  obtain⟨h1,h2,h3,h4,h5⟩:=hkind.structF
  cases hx;cases hy
  constructor
  ·rw[Sem.run_bind,run_eqGuard_agg w .eql t ox oy _ _ h2,Result.andThen_ok,run_eql_struct,heq,Result.andThen_ok]
  rw[Sem.run_bind,run_eqGuard_agg w .neq t ox oy _ _ h2,Result.andThen_ok,run_neq_struct,heq,Result.andThen_ok]
 simp at h
theorem WP (hT:TabOk P T){op:BinOp}{t:Nat}{x y:AV}{vx vy:Value}{ox oy:Operand}{K:AV->Prop}(hx:RepA S w φ ob x vx)(hy:RepA S w φ ob y vy)(h:cU T op t x y K) :
  GU K ((do eqGuard op t ox oy vx vy;binOp op t vx vy:Sem Value).run P w) w:=by
 rw[Xp] at h
 unfold Xj at h
 split at h
 ·obtain rfl:=hx.int;obtain rfl:=hy.int
  obtain⟨h1,r,rfl,hK⟩:=h
  refine⟨_,rfl,hK,?_⟩
  simp[BP,binOp,Op.shift,Int.not_lt.2 h1]
 ·obtain rfl:=hx.int;obtain rfl:=hy.int
  obtain⟨h1,r,rfl,hK⟩:=h
  refine⟨_,rfl,hK,?_⟩
  simp[BP,binOp,Op.shift,Int.not_lt.2 h1]
 ·obtain rfl:=hx.str;obtain rfl:=hy.str
  exact⟨_,rfl,h,by simp[GP,binOp,Op.stringOp]⟩
 ·obtain rfl:=hx.str;obtain rfl:=hy.str
  exact⟨_,rfl,h,by simp[GP,binOp,Op.stringOp]⟩
 ·obtain rfl:=hx.str;obtain rfl:=hy.str
  rename_i a b
  refine⟨_,rfl,h.2,?_⟩
  have:¬ (((a.size+b.size:Nat):Int) > IntKind.i64.max):=by
   have h1:=h.1
   have:IntKind.i64.max=9223372036854775807:=by decide
   rw[this]
   omega
  simp only[Sem.run_bind,GP,Result.andThen_ok,binOp,Op.stringOp,if_neg this,Sem.run_pure]
 ·obtain rfl:=hx.str;obtain rfl:=hy.str
  exact⟨_,rfl,h,by simp[GP,binOp,Op.stringOp]⟩
 ·obtain rfl:=hx.str;obtain rfl:=hy.str
  exact⟨_,rfl,h,by simp[GP,binOp,Op.stringOp]⟩
 ·obtain rfl:=hx.int;obtain rfl:=hy.int
  simp only[AI,decide_eq_true_eq] at h
  obtain⟨rfl,h⟩:=h
  cases op<;>simp only at h
  case add=>obtain⟨r,rfl,hK⟩:=h;exact⟨_,rfl,hK,by simp[BP,binOp,Op.intArith]⟩
  case sub=>obtain⟨r,rfl,hK⟩:=h;exact⟨_,rfl,hK,by simp[BP,binOp,Op.intArith]⟩
  case mul=>obtain⟨r,rfl,hK⟩:=h;exact⟨_,rfl,hK,by simp[BP,binOp,Op.intArith]⟩
  case quo=>obtain⟨h0,r,rfl,hK⟩:=h;exact⟨_,rfl,hK,by simp[BP,binOp,Op.intDiv,h0]⟩
  case rem=>obtain⟨h0,r,rfl,hK⟩:=h;exact⟨_,rfl,hK,by simp[BP,binOp,Op.intDiv,h0]⟩
  case and=>obtain⟨r,rfl,hK⟩:=h;exact⟨_,rfl,hK,by simp[BP,binOp,Op.intBits]⟩
  case or=>obtain⟨r,rfl,hK⟩:=h;exact⟨_,rfl,hK,by simp[BP,binOp,Op.intBits]⟩
  case xor=>obtain⟨r,rfl,hK⟩:=h;exact⟨_,rfl,hK,by simp[BP,binOp,Op.intBits]⟩
  case andNot=>obtain⟨r,rfl,hK⟩:=h;exact⟨_,rfl,hK,by simp[BP,binOp,Op.intBits]⟩
  case eql=>exact⟨_,rfl,h,by simp[BP,binOp,Op.intCmp]⟩
  case neq=>exact⟨_,rfl,h,by simp[BP,binOp,Op.intCmp]⟩
  case lss=>exact⟨_,rfl,h,by simp[BP,binOp,Op.intCmp]⟩
  case leq=>exact⟨_,rfl,h,by simp[BP,binOp,Op.intCmp]⟩
  case gtr=>exact⟨_,rfl,h,by simp[BP,binOp,Op.intCmp]⟩
  case geq=>exact⟨_,rfl,h,by simp[BP,binOp,Op.intCmp]⟩
  all_goals exact h.elim
 ·cases hx with | d _ _ hx=>cases hy with | d _ _ hy=>
  split at h
  ·rename_i b he;exact⟨_,rfl,h,(Xu hT hx hy he).1⟩
  exact h.elim
 ·cases hx with | d _ _ hx=>cases hy with | d _ _ hy=>
  split at h
  ·rename_i b he;exact⟨_,rfl,h,(Xu hT hx hy he).2⟩
  exact h.elim
 exact h.elim
theorem YG {op:UnOp}{x:AV}{vx:Value}{K:AV->Prop}(hx:RepA S w φ ob x vx)(h:unK op x K):GU K ((Op.unary op vx).run P w) w:=by
 unfold unK at h
 split at h
 ·obtain rfl:=hx.bool;exact⟨_,rfl,h,rfl⟩
 ·obtain rfl:=hx.int;obtain⟨r,rfl,hK⟩:=h;exact⟨_,rfl,hK,rfl⟩
 exact h.elim
theorem Wm (hT:TabOk P T){t ty:Nat}{x:AV}{vx:Value}{K:AV->Prop}(hx:RepA S w φ ob x vx)(h:Yq T t x K) :
  GU K ((Builtin.len_ #[t] ty #[vx]).run P w) w:=by
 have hcl:(T.get t).kind.cls≠none:=by
  intro hc
  cases hk:(T.get t).kind<;>simp[hk,TK.cls] at hc
  simp[Yq,hk] at h
 have hti:=(hT.of hcl).kind
 unfold Yq at h
 split at h
 ·rename_i hk
  rw[hk] at hti
  simp only[KindOk] at hti
  cases hx with | d _ _ hx=>
  obtain⟨n,hn,h⟩:=h
  cases hx with
  | lst0=>exact⟨_,rfl,h,by subst hn;simp[Builtin.len_,run_underlying hti,goInt]⟩
  | lst=>exact⟨_,rfl,h,by subst hn;simp[Builtin.len_,run_underlying hti,goInt]⟩
 ·rename_i hk
  rw[hk] at hti
  simp only[KindOk] at hti
  cases hx with | d _ _ hx=>
  cases hx with
  | nil=>exact⟨_,rfl,h,by simp[Builtin.len_,run_underlying hti,goInt]⟩
 ·rename_i hk
  rw[hk] at hti
  simp only[KindOk] at hti
  obtain⟨n,hn,h⟩:=h
  cases hx with | own _ _ _ k c a0 hv hkn _ _=>
  subst hv hkn hn
  exact⟨_,rfl,h,by simp[Builtin.len_,run_underlying hti,goInt]⟩
 ·rename_i hk
  rw[hk] at hti
  simp only[KindOk] at hti
  obtain⟨n,hn,h⟩:=h
  cases hx with | osl _ _ _ _ _ k c a0 hv hkn _=>
  subst hv hkn hn
  exact⟨_,rfl,h,by simp[Builtin.len_,run_underlying hti,goInt]⟩
 ·rename_i hk
  rw[hk] at hti
  simp only[KindOk] at hti
  obtain rfl:=hx.str
  exact⟨_,rfl,h,by simp[Builtin.len_,run_underlying hti,goInt]⟩
 ·rename_i hk
  rw[hk] at hti
  simp only[KindOk] at hti
  exact⟨_,rfl,h,by simp[Builtin.len_,run_underlying hti,goInt]⟩
 exact h.elim
theorem WG {x y:AV}{vx vy:Value}{K:AV->Prop}(hx:RepA S w φ ob x vx)(hy:RepA S w φ ob y vy)(h:aL [x,y] K)(ts:Array Nat)(ty:Nat):GU K ((Builtin.max_ ts ty #[vx,vy]).run P w) w:=by
 unfold aL at h
 split at h
 ·rename_i heq
  simp only[List.cons.injEq,and_true] at heq
  obtain⟨rfl,rfl⟩:=heq
  obtain rfl:=hx.int;obtain rfl:=hy.int
  obtain⟨r,rfl,hK⟩:=h
  exact⟨_,rfl,hK,by simp[Builtin.max_,Builtin.max2]⟩
 exact h.elim
theorem Wy {x y:AV}{vx vy:Value}{K:AV->Prop}(hx:RepA S w φ ob x vx)(hy:RepA S w φ ob y vy)(h:bA [x,y] K)(ts:Array Nat)(ty:Nat):GU K ((Builtin.min_ ts ty #[vx,vy]).run P w) w:=by
 unfold bA at h
 split at h
 ·rename_i heq
  simp only[List.cons.injEq,and_true] at heq
  obtain⟨rfl,rfl⟩:=heq
  obtain rfl:=hx.int;obtain rfl:=hy.int
  obtain⟨r,rfl,hK⟩:=h
  exact⟨_,rfl,hK,by simp[Builtin.min_,Builtin.min2]⟩
 exact h.elim
end
end Go.AX
end
section
namespace Go.AX
section
variable {P:Program} {T:TT} {E:Env} {w:World} {S:Sc} {φ:Nat->Option (Nat×Rp)} {ob:Nat->Option OB}
theorem Mem.drew (m:Mem E w S φ ob):Mem E w.drew S φ ob/\Kept w S φ ob w.drew S φ ob:=by
 have hk:Kept w S φ ob w.drew S φ ob:=⟨fun _ _ h=>⟨h,rfl⟩,fun r _=>.refl φ ob r,fun _ h=>h⟩
 exact⟨⟨fun r o h=>(m.obj r o h).keep hk rfl (fun _ _ _=>⟨rfl,fun _ h=>h⟩) (m.men r o h),m.inj,m.men,m.sS,m.kS,m.bS,m.nS,m.fr,m.sz,m.ow,⟨m.os.1,m.os.2.1,m.os.2.2.1,m.os.2.2.2.imp_right fun h=>Nat.le_trans h (Nat.le_succ _)⟩⟩,hk⟩
structure SrcV (S:Sc)(w:World)(sz:Nat)(ys:List D)(v:Value):Prop where
 hsz :∀i (hi:i<ys.length),ys[i].cells.length=sz
 na :∀i (hi:i<ys.length) j (hj:j<ys[i].cells.length),ys[i].cells[j].isAgg=false
 v:((∃a c,v=.slice a 0 c)/\ys=[]) \/∃b o cap,∃f:Nat->Nat->Value,v=.slice (some ⟨b,o,none⟩) ys.length cap/\(∀i j,i<ys.length->j<sz->cellAt w b (o+i*sz+j)=some (f i j))/\
  ∀i (hi:i<ys.length) j (hj:j<ys[i].cells.length),RepD S w ys[i].cells[j] (f i j)
theorem VI {obl:List (Option OB)}(m:Mem E w S φ (fun r=>obl.getD r none)){y:AV}{v:Value}{K:Nat->List D->Prop}(hy:RepA S w φ (fun r=>obl.getD r none) y v)(h:U2 obl y K) :
  ∃sz ys,K sz ys/\SrcV S w sz ys v:=by
 unfold U2 at h
 split at h
 ·rename_i sz es
  refine⟨sz,es,h,?_⟩
  cases hy with | d _ _ hy=>
  cases hy with
  | lst0=>exact⟨fun i hi=>by simp at hi,fun i hi=>by simp at hi,.inl ⟨⟨_,_,rfl⟩,rfl⟩⟩
  | lst _ _ b o cap f hl hc hsz hS hn hr=>exact⟨hsz,hn,.inr ⟨b,o,cap,f,rfl,fun i j hi hj=>(hS i j hi hj).2,hr⟩⟩
 ·rename_i sz
  refine⟨sz,[],h,?_⟩
  cases hy with | d _ _ hy=>
  cases hy with
  | nil=>exact⟨fun i hi=>by simp at hi,fun i hi=>by simp at hi,.inl ⟨⟨_,_,rfl⟩,rfl⟩⟩
 ·rename_i r n
  rw[A1] at h
  obtain⟨o,ho,h⟩:=h
  cases o with
  | box=>simp at h
  | map=>simp at h
  | amap=>simp at h
  | gone=>simp at h
  | row e sz es frz=>
   simp only at h
   refine⟨sz,es,h.2,?_⟩
   obtain⟨g0,g1,g2,g3⟩:=m.obj r _ ho
   cases hy with | own _ _ _ k c a0 hv hk h1 hb=>
   obtain⟨_,h2⟩:=h1 e sz es frz ho
   rcases h2 h.1 with ⟨a1,a2,_,rfl⟩|⟨b,cap,a1,rfl⟩
   ·exact⟨g1,g2,.inl ⟨⟨_,_,rfl⟩,List.eq_nil_of_length_eq_zero (by omega)⟩⟩
   rcases g3 with ⟨f1,_⟩|⟨b',cap',vs,f,f1,f2,f3,f4,f5,f6,f7,f8⟩
   ·rw[f1] at a1;simp at a1
   rw[f1] at a1
   simp only[X24,X26] at a1
   obtain⟨rfl,rfl⟩:=a1
   exact⟨g1,g2,.inr ⟨b',cap'.2,cap'.1,f,by rw[h.1],fun i j hi hj=>by rw[Bd f2,Nat.add_assoc];exact f6 i j hi hj,f7⟩⟩
 exact h.elim
theorem Jr {obl:List (Option OB)}(m:Mem E w S φ (fun r=>obl.getD r none)){y:AV}{v:Value}{K:Nat->List D->Prop}(hy:RepA S w φ (fun r=>obl.getD r none) y v)(h:Ta obl y K) :
  ∃sz ys,K sz ys/\SrcV S w sz ys v:=by
 unfold Ta at h
 split at h
 ·rename_i r a n k
  rw[A1] at h
  obtain⟨o,ho,h⟩:=h
  cases o with
  | box=>simp at h
  | map=>simp at h
  | amap=>simp at h
  | gone=>simp at h
  | row e sz es frz=>
   simp only at h
   obtain⟨hm,zs,hzs,hK⟩:=h
   obtain⟨g0,g1,g2,g3⟩:=m.obj r _ ho
   cases hy with | osl _ _ _ _ _ k c a0 hv hk h1=>
   obtain⟨q1,q2,_⟩:=(h1 e sz es frz ho).2 hm
   have hlen:zs.length=n:=by rw[<- hzs];simp;omega
   have hget :∀i (hi:i<zs.length),zs[i]=es[a+i]'(by omega):=fun i hi=>by subst hzs;simp
   refine⟨sz,zs,hK,fun i hi=>by rw[hget i hi];exact g1 _ _,fun i hi j hj=>by
    have:=hget i hi
    simp only[this] at hj ⊢
    exact g2 _ _ j hj,?_⟩
   rcases q2 with q2 | ⟨b,cap,c',q2,q3,_⟩
   ·have:zs=[]:=List.eq_nil_of_length_eq_zero (by omega)
    exact .inl ⟨⟨a0,c,by rw[hv,hk,q2]⟩,this⟩
   rcases g3 with ⟨f1,_⟩|⟨b',cap',vs,f,f1,f2,f3,f4,f5,f6,f7,f8⟩
   ·rw[f1] at q2;simp at q2
   rw[f1] at q2
   simp only[X24,X26] at q2
   obtain⟨rfl,rfl⟩:=q2
   refine .inr ⟨b',cap'.2+a*sz,c',fun i j=>f (a+i) j,by rw[q3,hlen],fun i j hi hj=>?_,fun i hi j hj=>?_⟩
   ·rw[Bd f2,show cap'.2+a*sz+i*sz+j=cap'.2+((a+i)*sz+j) by rw[X32];omega]
    exact f6 (a+i) j (by omega) hj
   have:=hget i hi
   simp only[this] at hj ⊢
   exact f7 (a+i) (by omega) j hj
 exact VI m hy h
def flat (n sz:Nat)(f:Nat->Nat->Value):List Value:=(List.range (n*sz)).map fun k=>f (k/sz) (k%sz)
theorem flat_length (n sz:Nat)(f:Nat->Nat->Value):(flat n sz f).length=n*sz:=by simp[flat]
theorem flat_get {n sz:Nat}(f:Nat->Nat->Value){i j:Nat}(hi:i<n)(hj:j<sz):(flat n sz f)[i*sz+j]?=some (f i j):=by
 have:i*sz+j<n*sz:=by
  have:(i+1)*sz<=n*sz:=X31 _ hi
  rw[X32] at this
  omega
 have hsz:0<sz:=by omega
 have h1:(i*sz+j)/sz=i:=by
  rw[Nat.mul_comm,Nat.mul_add_div hsz,Nat.div_eq_of_lt hj,Nat.add_zero]
 have h2:(i*sz+j)%sz=j:=by
  rw[Nat.mul_comm,Nat.mul_add_mod,Nat.mod_eq_of_lt hj]
 simp[flat,this,h1,h2]
theorem Lh {n sz:Nat}{f:Nat->Nat->Value}{g:Nat->Option Value}(h :∀i j,i<n->j<sz->g (i*sz+j)=some (f i j)) :∀k v,(flat n sz f)[k]?=some v->g k=some v:=by
 intro k v hv
 obtain⟨hk,rfl⟩:=X16.1 hv
 rw[flat_length] at hk
 have hsz:0<sz:=by
  rcases Nat.eq_zero_or_pos sz with h | h
  ·subst h;simp at hk
  exact h
 have h1:k/sz<n:=Nat.div_lt_of_lt_mul (by rw[Nat.mul_comm];exact hk)
 have h2:k%sz<sz:=Nat.mod_lt _ hsz
 have h3:k/sz*sz+k%sz=k:=by rw[Nat.mul_comm];exact Nat.div_add_mod k sz
 have:=h _ _ h1 h2
 rw[h3] at this
 simp[flat,this]
theorem SrcV.one {sz n:Nat}{ys:List D}{f:Nat->Nat->Value}(hn:n=ys.length)(h1 :∀i (hi:i<ys.length),ys[i].cells.length=sz)(h2 :∀i (hi:i<ys.length) j (hj:j<ys[i].cells.length),ys[i].cells[j].isAgg=false)
  (h3 :∀i (hi:i<ys.length) j (hj:j<ys[i].cells.length),RepD S w ys[i].cells[j] (f i j)) :∀u∈flat n sz f,u.oneCell'=true:=by
 intro u hu
 obtain⟨k,hk,rfl⟩:=List.getElem_of_mem hu
 rw[flat_length] at hk
 have hsz:0<sz:=by
  rcases Nat.eq_zero_or_pos sz with h | h
  ·subst h;simp at hk
  exact h
 have g1:k/sz<ys.length:=by rw[<- hn];exact Nat.div_lt_of_lt_mul (by rw[Nat.mul_comm];exact hk)
 have g2:k%sz<ys[k/sz].cells.length:=by rw[h1];exact Nat.mod_lt _ hsz
 have:=(h3 _ g1 _ g2).one (h2 _ g1 _ g2)
 simpa[flat] using this
theorem Qq {es ys:List D}{sz:Nat}(h1 :∀i (hi:i<es.length),es[i].cells.length=sz)(h2 :∀i (hi:i<ys.length),ys[i].cells.length=sz) :
  ∀i (hi:i<(es++ys).length),(es++ys)[i].cells.length=sz:=by
 intro i hi
 rw[List.getElem_append]
 split
 ·exact h1 _ _
 exact h2 _ _
theorem J4 {t ty e:Nat}(ht:P.underlying t=some (.slice e)){i:TypeInfo}(hi:P.info? e=some i)(a:Option Addr)(n c:Nat)(hn:n<=c){a2:Option Addr}{c2:Nat} :
  (Builtin.append_ #[t,t] ty #[.slice a n c,.slice a2 0 c2]).run P w=.ok (.slice a n c) w:=by
 cases a<;>cases a2<;>simp[Builtin.append_,run_underlying ht,sizeOf,typeInfo,hi,Builtin.lenOf,hn,Builtin.firstCells,storeCells,loadCells,loadCellsFrom]
theorem MO (t ty e:TypeId)(i:TypeInfo)(ht:P.underlying t=some (.slice e))(hi:P.info? e=some i)
  (g o sLen sCap:Nat) (cur:Array Value) (hg:w.heap[g]?=some (.cells cur e (0,0)))
  (a:Addr) (m c:Nat) (news:List Value) (hl:news.length=m*i.size) (hnews :∀j u,news[j]?=some u->w.cell? (a.add j)=some u) (h1 :∀u∈news,u.oneCell'=true)
  (hroom:sLen+m<=sCap) (hfit:o+sLen*i.size+news.length<=cur.size) :
  (Builtin.append_ #[t,t] ty #[.slice (some ⟨g,o,none⟩) sLen sCap,.slice (some a) m c]).run P w =
   .ok (.slice (some ⟨g,o,none⟩) (sLen+m) sCap) (w.setRow g (cur.toList.take (o+sLen*i.size)++news++cur.toList.drop (o+sLen*i.size+news.length)).toArray):=by
 have hf:=run_firstCells_some (P:=P) w i.size m a m c news hl hnews
 have hst:=run_storeCells_at P g (o+sLen*i.size) e news 0 cur w hg (by simpa using hfit) h1
 simp only[Nat.add_zero] at hst
 simp[Builtin.append_,run_underlying ht,sizeOf,typeInfo,hi,Builtin.lenOf,hroom,hf,Addr.add_lit,hst]
theorem Mem.fz (m:Mem E w S φ ob){r e sz:Nat}{es:List D}{f f':FZ}(ho:ob r=some (.row e sz es f))(hf:f'.frozen=f.frozen)(hq :∀q∈f'.refs,ob q≠none)(hl :∀i j q n,f'=.lk i j q n->es.length<=i\/f=.lk i j q n) :
  Mem E w S φ (upd ob r (some (.row e sz es f')))/\Kept w S φ ob w S φ (upd ob r (some (.row e sz es f'))):=by
 obtain⟨g0,g1,g2,g3⟩:=m.obj r _ ho
 have:=m.set r _ (.row e sz es f') w (φ r) ho (fun _ _ _=>rfl) (Nat.le_refl _) ⟨rfl,rfl,rfl,Nat.le_refl _⟩ (fun _ _ _ _ _=>rfl) (.inl rfl) (.inl ⟨upd_same _ _ _,by simp[ho,hdr],fun ⟨cs,h⟩=>by simp at h⟩) hq fun hk=>by
  refine⟨g0,g1,g2,g3.imp (fun h=>⟨by rw[upd_same];exact h.1,h.2⟩) ?_⟩
  rintro⟨b,cap,vs,g,f1,f2,f3,f4,f5,f6,f7,f8⟩
  refine⟨b,cap,vs,g,by rw[upd_same];exact f1,f2,f3,f4,f5,f6,fun i hi j hj=>(f7 i hi j hj).mono hk.k,fun o h=>f8.1 o (by rw[hf] at h;exact h),fun i j q n h hi hj=>?_⟩
  rcases hl i j q n h with h' | h'
  ·omega
  exact hk.rep (fun q' hq'=>hq q' (by rw[h];simpa[AV.refs] using hq')) (f8.2 i j q n h' hi hj)
 have hu:upd φ r (φ r)=φ:=by funext i;by_cases hi:i=r<;>simp[upd,hi]
 rw[hu] at this
 exact this
structure ApRun (P:Program)(w:World)(t u ty e:Nat)(z:Value)(i:TypeInfo)(sz n:Nat)(f:Nat->Nat->Value)(vy:Value):Prop where
 nop:n=0->∀(a:Option Addr) (m c:Nat),m<=c->(Builtin.append_ #[t,u] ty #[.slice a m c,vy]).run P w=.ok (.slice a m c) w
 new:0<n->∀(a0:Option Addr),n*i.bytes<=281474976710656->(Builtin.append_ #[t,u] ty #[.slice a0 0 0,vy]).run P w =
  .ok (.slice (some ⟨w.heap.size,0,none⟩) n (grownCap w n 0 e)) (w.drew.alloc (.cells ((flat n sz f).toArray++Builtin.zeroCells z.cells (grownCap w n 0 e-n)) e))
 room:0<n->∀(g o sLen sCap:Nat) (cur:Array Value),w.heap[g]?=some (.cells cur e (0,0))->sLen+n<=sCap->o+sLen*sz+n*sz<=cur.size->
  (Builtin.append_ #[t,u] ty #[.slice (some ⟨g,o,none⟩) sLen sCap,vy]).run P w=.ok (.slice (some ⟨g,o,none⟩) (sLen+n) sCap) (w.setRow g (cur.toList.take (o+sLen*sz)++flat n sz f++cur.toList.drop (o+sLen*sz+(flat n sz f).length)).toArray)
 grow:0<n->∀(b:Addr) (sLen sCap:Nat) (olds:List Value),olds.length=sLen*sz->(∀j v,olds[j]?=some v->w.cell? (b.add j)=some v)->sCap<sLen+n->((sLen+n:Nat):Int)<=9223372036854775807->Builtin.nextslicecap (sLen+n) sCap*i.bytes<=281474976710656->
  (Builtin.append_ #[t,u] ty #[.slice (some b) sLen sCap,vy]).run P w=.ok (.slice (some ⟨w.heap.size,0,none⟩) (sLen+n) (grownCap w (sLen+n) sCap e))
   (w.drew.alloc (.cells (olds.toArray++(flat n sz f).toArray++Builtin.zeroCells z.cells (grownCap w (sLen+n) sCap e-(sLen+n))) e))
theorem Jk (m:Mem E w S φ ob){t u ty e:Nat}{tie:TI}(hte:TiOk P e tie)(ht:P.underlying t=some (.slice e)){r sz:Nat}{es ys:List D}{frz fz':FZ}(hfz:fz'.frozen=frz.frozen)(ho:ob r=some (.row e sz es frz)){vx vy:Value}
  (hv:Ib φ r es.length vx) {f:Nat->Nat->Value} (hysz :∀i (hi:i<ys.length),ys[i].cells.length=sz) (hyna :∀i (hi:i<ys.length) j (hj:j<ys[i].cells.length),ys[i].cells[j].isAgg=false) (hr :∀i (hi:i<ys.length) j (hj:j<ys[i].cells.length),RepD S w ys[i].cells[j] (f i j)) (hy :∀{i z},P.info? e=some i->i.zero=some z->ApRun P w t u ty e z i sz ys.length f vy) (hlk :∀i j q n,fz'=.lk i j q n->ob q≠none/\∃i0,i=es.length+i0/\(i0<ys.length->j<sz->RepA S w φ ob (.own q n) (f i0 j))) (hsz:tie.size=sz) (hb1:(es.length+ys.length)*tie.bytes<=2^47) (hb2:es.length+ys.length<=2^47) :
  ∃u' w' φ',(Builtin.append_ #[t,u] ty #[vx,vy]).run P w=.ok u' w'/\Mem E w' S φ' (upd ob r (some (.row e sz (es++ys) fz')))/\Kept w S φ ob w' S φ' (upd ob r (some (.row e sz (es++ys) fz')))/\Ib φ' r (es++ys).length u':=by
 obtain⟨i,z,hi,hi1,hi2,hz,hz1,hz2,_⟩:=hte.info
 rw[hsz] at hi1
 obtain⟨g0,g1,g2,g3⟩:=m.obj r _ ho
 have hr0:ob r≠none:=by simp[ho]
 have hrefs :∀q∈fz'.refs,ob q≠none:=by
  intro q hq
  cases hz:fz' with
  | no=>simp[hz] at hq
  | yes=>simp[hz] at hq
  | lk i j q' n=>
   simp only[hz,FZ.refs_lk,X14] at hq
   rw[hq];exact (hlk _ _ _ _ hz).1
 have same :∀(h:ys=[]),Mem E w S φ (upd ob r (some (.row e sz (es++ys) fz')))/\Kept w S φ ob w S φ (upd ob r (some (.row e sz (es++ys) fz'))):=by
  intro h;subst h
  rw[List.append_nil]
  refine m.fz ho hfz hrefs fun i j q n h=>.inl ?_
  obtain⟨_,i0,h1,_⟩:=hlk i j q n h
  omega
 have h46:(2:Nat)^47=140737488355328:=by decide
 rw[h46] at hb1 hb2
 have hbytes:(es.length+ys.length)*i.bytes<=140737488355328:=by rw[hi2];omega
 have hmax :∀(c:Nat),grownCap w (es.length+ys.length) c e<=maxLen:=fun c=>grownCap_le_maxLen w _ c e (by simp only[maxLen];omega)
 have fresh :∀(xs:List Value) (c:Nat) (hc:c<es.length+ys.length) (hcl:es.length<=c) (f g:Nat->Nat->Value) (hxs:xs=flat es.length sz g)
   (hg :∀i (hi:i<es.length) j (hj:j<es[i].cells.length),RepD S w es[i].cells[j] (g i j))
   (hf :∀i (hi:i<ys.length) j (hj:j<ys[i].cells.length),RepD S w ys[i].cells[j] (f i j))
   (hfl :∀i j q n,fz'=.lk i j q n->i<(es++ys).length->j<sz->RepA S w φ ob (.own q n) (f (i-es.length) j)),
   ∃φ',Mem E (w.drew.alloc (.cells (xs.toArray++(flat ys.length sz f).toArray++Builtin.zeroCells z.cells (grownCap w (es.length+ys.length) c e-(es.length+ys.length))) e)) S φ' (upd ob r (some (.row e sz (es++ys) fz')))/\
    Kept w S φ ob (w.drew.alloc (.cells (xs.toArray++(flat ys.length sz f).toArray++Builtin.zeroCells z.cells (grownCap w (es.length+ys.length) c e-(es.length+ys.length))) e)) S φ' (upd ob r (some (.row e sz (es++ys) fz')))/\
    Ib φ' r (es++ys).length (.slice (some ⟨w.heap.size,0,none⟩) (es.length+ys.length) (grownCap w (es.length+ys.length) c e)):=by
  intro xs c hc hcl f g hxs hg hf hfl
  have hge:=grownCap_ge w (es.length+ys.length) c e
  obtain⟨md,kd⟩:=m.drew
  generalize hw':w.drew.alloc (.cells (xs.toArray++(flat ys.length sz f).toArray++Builtin.zeroCells z.cells (grownCap w (es.length+ys.length) c e-(es.length+ys.length))) e)=w'
  have hblk:w'.heap[w.heap.size]?=some (.cells (xs.toArray++(flat ys.length sz f).toArray++Builtin.zeroCells z.cells (grownCap w (es.length+ys.length) c e-(es.length+ys.length))) e (0,0)):=by
   rw[<- hw'];exact heap_alloc_new w.drew _
  have hold :∀k,k<w.heap.size->w'.heap[k]?=w.heap[k]?:=fun k hk=>by rw[<- hw'];exact G4 w.drew _ hk
  have hsize:w'.heap.size=w.heap.size+1:=by rw[<- hw'];simp
  have hlen:((xs.toArray++(flat ys.length sz f).toArray++Builtin.zeroCells z.cells (grownCap w (es.length+ys.length) c e-(es.length+ys.length)))).size=grownCap w (es.length+ys.length) c e*sz:=by
   simp only[Array.size_append,List.size_toArray,size_zeroCells,hz1,hxs,flat_length,hsz]
   rw[<- X32,<- X32]
   congr 1
   omega
  obtain⟨m',k'⟩:=m.set r _ (.row e sz (es++ys) fz') w' (some (w.heap.size,(grownCap w (es.length+ys.length) c e,0))) ho (fun k hk _=>hold k hk) (by omega) (by rw[<- hw'];exact⟨rfl,rfl,rfl,Nat.le_succ _⟩)
   (fun b' c' o' hb' hS=>C4 (hold b' (m.bS b' o' hS)) o') (.inr ⟨_,_,rfl,Nat.le_refl _,by omega⟩)
   (.inr <| .inl ⟨e,sz,es,frz,es++ys,fz',ho,upd_same _ _ _,by simp,fun hh=>by
    have hy0:ys=[]:=by simpa using hh
    subst hy0
    simp at hc
    omega⟩) (fun r' hr'=>hrefs r' hr') (fun hk=>by
    refine⟨g0,Qq g1 hysz,fun i hi j hj=>?_,.inr ⟨w.heap.size,(grownCap w (es.length+ys.length) c e,0),_,fun i j=>if i<es.length then g i j else f (i-es.length) j,upd_same _ _ _,hblk,by simpa using hge,hmax c,by rw[hlen];exact Nat.le_of_eq (Nat.zero_add _),fun i j hi hj=>?_,fun i hi j hj=>?_,fun o' _ ho'=>?_,fun i j q n hq hi hj=>?_⟩⟩
    ·have e1:(es++ys)[i]=if h:i<es.length then es[i] else ys[i-es.length]'(by simp at hi;omega):=List.getElem_append ..
     simp only[e1] at hj ⊢
     split at hj
     ·rename_i h;simp only[h,dif_pos];exact g2 i h j hj
     rename_i h;simp only[h,dif_neg,not_false_eq_true];exact hyna _ _ j hj
    ·simp only[X11] at hi
     simp only[Nat.zero_add]
     rw[Array.getElem?_append_left (by
      simp only[Array.size_append,List.size_toArray,hxs,flat_length,<- X32]
      have:(i+1)*sz<=(es.length+ys.length)*sz:=X31 _ hi
      rw[X32] at this
      omega)]
     by_cases h:i<es.length
     ·simp only[if_pos h]
      rw[Array.getElem?_append_left (by
       simp only[List.size_toArray,hxs,flat_length]
       have:(i+1)*sz<=es.length*sz:=X31 _ h
       rw[X32] at this
       omega)]
      simp only[hxs]
      simpa using flat_get g h hj
     have hle:es.length*sz<=i*sz:=X31 _ (by omega)
     simp only[if_neg h]
     rw[Array.getElem?_append_right (by simp only[List.size_toArray,hxs,flat_length];omega)]
     simp only[List.size_toArray,hxs,flat_length]
     have e2:i*sz+j-es.length*sz=(i-es.length)*sz+j:=by rw[Nat.sub_mul];omega
     rw[e2]
     simpa using flat_get f (show i-es.length<ys.length by omega) hj
    ·have e1:(es++ys)[i]=if h:i<es.length then es[i] else ys[i-es.length]'(by simp at hi;omega):=List.getElem_append ..
     simp only[e1] at hj ⊢
     split at hj
     ·rename_i h;simp only[h,dif_pos,if_true];exact (hg i h j hj).mono hk.k
     rename_i h;simp only[h,dif_neg,not_false_eq_true,if_false];exact (hf _ _ j hj).mono hk.k
    ·exact absurd (m.bS _ _ ho') (Nat.lt_irrefl _)
    obtain⟨h1,i0,h2,_⟩:=hlk i j q n hq
    simp only[if_neg (show ¬ i<es.length by omega)]
    exact hk.rep (fun q' hq'=>by simp only[AV.refs,X14] at hq';rw[hq'];exact h1) (hfl i j q n hq hi hj))
  exact⟨_,m',k',.inr ⟨_,_,upd_same _ _ _,by simp⟩⟩
 have lkf :∀i j q n,fz'=.lk i j q n->i<(es++ys).length->j<sz->RepA S w φ ob (.own q n) (f (i-es.length) j):=by
  intro i j q n hq hi hj
  obtain⟨_,i0,h2,h3⟩:=hlk i j q n hq
  simp only[X11] at hi
  have e:i-es.length=i0:=by omega
  rw[e]
  exact h3 (by omega) hj
 have hR:=hy hi hz
 by_cases hys:ys=[]
 ·refine⟨vx,w,φ,?_,(same hys).1,(same hys).2,?_⟩
  ·rcases hv with ⟨a1,a2,a0,rfl⟩|⟨b1,cap1,a1,rfl⟩
   ·exact hR.nop (by rw[hys];rfl) a0 0 0 (Nat.le_refl _)
   rcases g3 with ⟨f1,_⟩|⟨b',cap',cur,g,f1,f2,f3,_⟩
   ·rw[a1] at f1;simp at f1
   rw[a1] at f1
   simp only[X24,X26] at f1
   obtain⟨rfl,rfl⟩:=f1
   exact hR.nop (by rw[hys];rfl) _ _ _ f3
  rw[hys,List.append_nil]
  exact hv
 have hpos:0<ys.length:=List.length_pos_iff.2 hys
 rcases hv with ⟨a1,a2,a0,rfl⟩|⟨b1,cap1,a1,rfl⟩
 ·
  have hes:es=[]:=List.eq_nil_of_length_eq_zero a2
  have hby:ys.length*i.bytes<=281474976710656:=by rw[a2,Nat.zero_add] at hbytes;omega
  have hrun:=hR.new hpos a0 hby
  obtain⟨φ',h1,h2,h3⟩:=fresh [] 0 (by omega) (by omega) f (fun _ _=>undef) (by simp[hes,flat]) (fun i hi=>by simp[hes] at hi) hr lkf
  simp only[a2,Nat.zero_add] at h1 h2 h3
  exact⟨_,_,φ',hrun,by simpa using h1,by simpa using h2,h3⟩
 rcases g3 with ⟨f1,_⟩|⟨b',cap',cur,g,f1,f2,f3,f4,f5,f6,f7,f8⟩
 ·rw[a1] at f1;simp at f1
 rw[a1] at f1
 simp only[X24,X26] at f1
 obtain⟨rfl,rfl⟩:=f1
 by_cases hroom:es.length+ys.length<=cap1.1
 ·have hle:(es.length+ys.length)*sz<=cap1.1*sz:=X31 _ hroom
  rw[X32] at hle
  have hrun:=hR.room hpos b1 cap1.2 es.length cap1.1 cur f2 hroom (by omega)
  have hov:(cur.toList.take (cap1.2+es.length*sz)++flat ys.length sz f++cur.toList.drop (cap1.2+es.length*sz+(flat ys.length sz f).length))=BY cur.toList (cap1.2+es.length*sz) (flat ys.length sz f):=rfl
  rw[hov] at hrun
  have hov2:cap1.2+es.length*sz+(flat ys.length sz f).length<=cur.toList.length:=by rw[flat_length];simp;omega
  obtain⟨q1,q2,q3⟩:=HJ w b1 (BY cur.toList (cap1.2+es.length*sz) (flat ys.length sz f)).toArray
  have hh:=setRow_heap w b1 cur (BY cur.toList (cap1.2+es.length*sz) (flat ys.length sz f)).toArray e (0,0) f2
  have hget :∀k,(BY cur.toList (cap1.2+es.length*sz) (flat ys.length sz f)).toArray[k]?=if cap1.2+es.length*sz<=k/\k<cap1.2+es.length*sz+ys.length*sz then (flat ys.length sz f)[k-(cap1.2+es.length*sz)]? else cur[k]?:=by
   intro k
   have:=EY cur.toList (cap1.2+es.length*sz) (flat ys.length sz f) hov2 k
   rw[flat_length] at this
   simpa using this
  have hS8 :∀o',S b1 o'->o'<cap1.2+es.length*sz:=by
   intro o' ho'
   refine Nat.lt_of_not_le fun hge=>f8.1 o' ?_ ho'
   cases frz<;>simp
   exact hge
  obtain⟨m',k'⟩:=m.set r _ (.row e sz (es++ys) fz') (w.setRow b1 (BY cur.toList (cap1.2+es.length*sz) (flat ys.length sz f)).toArray) (φ r) ho (fun k hk hne=>q1 k fun e=>hne cap1 (by rw[e];exact a1)) (by omega) q3
   (fun b2 c2 o2 hb2 hS2=>by
    rw[a1] at hb2
    simp only[X24,X26] at hb2
    obtain⟨rfl,rfl⟩:=hb2
    rw[Bd hh,Bd f2,hget,if_neg (by have:=hS8 o2 hS2;omega)]) (.inl rfl)
   (.inr <| .inl ⟨e,sz,es,frz,es++ys,fz',ho,upd_same _ _ _,by simp,fun _=>upd_same _ _ _⟩) (fun r' hr'=>hrefs r' hr') (fun hk=>by
    refine⟨g0,Qq g1 hysz,fun i hi j hj=>?_,.inr ⟨b1,cap1,_,fun i j=>if i<es.length then g i j else f (i-es.length) j,by rw[upd_same];exact a1,hh,by simpa using hroom,f4,?_,fun i j hi hj=>?_,fun i hi j hj=>?_,fun o' ho1 ho'=>?_,fun i j q n hq hi hj=>?_⟩⟩
    ·have e1:(es++ys)[i]=if h:i<es.length then es[i] else ys[i-es.length]'(by simp at hi;omega):=List.getElem_append ..
     simp only[e1] at hj ⊢
     split at hj
     ·rename_i h;simp only[h,dif_pos];exact g2 i h j hj
     rename_i h;simp only[h,dif_neg,not_false_eq_true];exact hyna _ _ j hj
    ·rw[List.size_toArray,Bg _ _ _ hov2];simpa using f5
    ·simp only[X11] at hi
     rw[hget]
     by_cases h:i<es.length
     ·have:(i+1)*sz<=es.length*sz:=X31 _ h
      rw[X32] at this
      simp only[if_pos h]
      rw[if_neg (by omega)]
      exact f6 i j h hj
     have hle2:es.length*sz<=i*sz:=X31 _ (by omega)
     have hle3:(i+1)*sz<=(es.length+ys.length)*sz:=X31 _ hi
     rw[X32,X32] at hle3
     simp only[if_neg h]
     rw[if_pos (by omega)]
     have e2:cap1.2+(i*sz+j)-(cap1.2+es.length*sz)=(i-es.length)*sz+j:=by rw[Nat.sub_mul];omega
     rw[e2]
     exact flat_get f (show i-es.length<ys.length by omega) hj
    ·have e1:(es++ys)[i]=if h:i<es.length then es[i] else ys[i-es.length]'(by simp at hi;omega):=List.getElem_append ..
     simp only[e1] at hj ⊢
     split at hj
     ·rename_i h;simp only[h,dif_pos,if_true];exact (f7 i h j hj).mono hk.k
     rename_i h;simp only[h,dif_neg,not_false_eq_true,if_false];exact (hr _ _ j hj).mono hk.k
    ·refine f8.1 o' ?_ ho'
     rw[hfz] at ho1
     cases frz with
     | no=>simp
     | lk=>simp
     | yes=>
      simp only[FZ.frozen_yes,if_true,X11,X32] at ho1 ⊢
      omega
    obtain⟨h1,i0,h2,_⟩:=hlk i j q n hq
    simp only[if_neg (show ¬ i<es.length by omega)]
    exact hk.rep (fun q' hq'=>by simp only[AV.refs,X14] at hq';rw[hq'];exact h1) (lkf i j q n hq hi hj))
  have hu:upd φ r (φ r)=φ:=by funext i;by_cases hi:i=r<;>simp[upd,hi]
  rw[hu] at m' k'
  exact⟨_,_,φ,hrun,m',k',.inr ⟨_,_,a1,by simp⟩⟩
 have holds :∀j v,(flat es.length sz g)[j]?=some v->w.cell? ((⟨b1,cap1.2,none⟩:Addr).add j)=some v:=
  Lh (g:=fun k=>w.cell? ((⟨b1,cap1.2,none⟩:Addr).add k)) fun i j hi hj=>by
   rw[Addr.add_none]
   have:=f6 i j hi hj
   rw[<- Bd f2] at this
   exact this
 have hrun:=hR.grow hpos ⟨b1,cap1.2,none⟩ es.length cap1.1 (flat es.length sz g) (flat_length _ _ _) holds (by omega) (by omega) (growslice_fits (by omega) hbytes)
 obtain⟨φ',h1,h2,h3⟩:=fresh (flat es.length sz g) cap1.1 (by omega) f3 f g rfl f7 hr lkf
 exact⟨_,_,φ',hrun,h1,h2,h3⟩
theorem LV (m:Mem E w S φ ob){t ty e:Nat}{tie:TI}(hte:TiOk P e tie)(ht:P.underlying t=some (.slice e)){r sz:Nat}{es ys:List D}{frz fz':FZ}(hfz:fz'.frozen=frz.frozen)(ho:ob r=some (.row e sz es frz)){vx vy:Value}
  (hv:Ib φ r es.length vx) (hy:SrcV S w sz ys vy) (hlk :∀i j q n,fz'=.lk i j q n->ob q≠none/\∃i0,i=es.length+i0/\∀b o l c u,vy=.slice (some ⟨b,o,none⟩) l c->i0<l->j<sz->cellAt w b (o+(i0*sz+j))=some u->RepA S w φ ob (.own q n) u) (hsz:tie.size=sz) (hb1:(es.length+ys.length)*tie.bytes<=2^47) (hb2:es.length+ys.length<=2^47) :
  ∃u w' φ',(Builtin.append_ #[t,t] ty #[vx,vy]).run P w=.ok u w'/\Mem E w' S φ' (upd ob r (some (.row e sz (es++ys) fz')))/\Kept w S φ ob w' S φ' (upd ob r (some (.row e sz (es++ys) fz')))/\Ib φ' r (es++ys).length u:=by
 rcases hy.v with ⟨⟨a2,c2,rfl⟩,hys⟩|⟨b,o,cap,f,rfl,hc,hr⟩
 ·have h0:ys.length=0:=by rw[hys];rfl
  refine Jk (f:=fun _ _=>undef) m hte ht hfz ho hv hy.hsz hy.na (fun i hi=>by omega) (fun {i z} hi hz=>⟨fun _ a m c hmc=>J4 ht hi a m c hmc,fun h=>by omega,fun h=>by omega,fun h=>by omega⟩) (fun i j q n h=>?_) hsz hb1 hb2
  obtain⟨l1,i0,l2,_⟩:=hlk i j q n h
  exact⟨l1,i0,l2,fun h=>by omega⟩
 refine Jk (f:=f) m hte ht hfz ho hv hy.hsz hy.na hr (fun {i z} hi hz=>?_) (fun i j q n h=>?_) hsz hb1 hb2
 ·obtain⟨i',z',hi',hi1,hi2,hz',hz1,hz2,_⟩:=hte.info
  rw[hi] at hi'
  cases hi'
  rw[hsz] at hi1
  have hnews :∀j v,(flat ys.length sz f)[j]?=some v->w.cell? ((⟨b,o,none⟩:Addr).add j)=some v:=
   Lh (g:=fun k=>w.cell? ((⟨b,o,none⟩:Addr).add k)) fun i j hi hj=>by rw[Addr.add_none];have:=hc i j hi hj;rw[Nat.add_assoc] at this;exact this
  refine⟨fun h0 a m c hmc=>by rw[h0];exact J4 ht hi a m c hmc,fun hpos a0 hby=>?_,fun hpos g o' sLen sCap cur hg hroom hfit=>?_,fun hpos q sLen sCap olds hlo holds hg h63 hfit=>?_⟩
  ·cases a0 with
   | none=>exact run_append_nil (P:=P) w t ty e i z ht hi hz ⟨b,o,none⟩ ys.length cap (flat ys.length sz f) (by rw[flat_length,hi1]) hnews hpos (by omega) hby
   | some q=>
    have h:=run_append_grow (P:=P) w t ty e i z ht hi hz q 0 0 [] (by simp) (fun j v h=>by simp at h) ⟨b,o,none⟩ ys.length cap (flat ys.length sz f) (by rw[flat_length,hi1]) hnews (by omega) (by omega)
     (by rw[Nat.zero_add,nextslicecap_zero hpos];exact hby)
    simpa using h
  ·have h:=MO (P:=P) (w:=w) t ty e i ht hi g o' sLen sCap cur hg ⟨b,o,none⟩ ys.length cap (flat ys.length sz f) (by rw[flat_length,hi1]) hnews (SrcV.one rfl hy.hsz hy.na hr) hroom (by rw[hi1,flat_length];omega)
   rw[hi1] at h
   exact h
  exact run_append_grow (P:=P) w t ty e i z ht hi hz q sLen sCap olds (by rw[hi1];exact hlo) holds ⟨b,o,none⟩ ys.length cap (flat ys.length sz f) (by rw[flat_length,hi1]) hnews hg h63 hfit
 obtain⟨l1,i0,l2,l3⟩:=hlk i j q n h
 exact⟨l1,i0,l2,fun hi0 hj=>l3 b o _ _ _ rfl hi0 hj (by rw[<- Nat.add_assoc];exact hc i0 j hi0 hj)⟩
theorem bytes_of_nums (l:List UInt8):strOfNums (l.map fun c=>(c.toNat:Int))=⟨l.toArray⟩:=by
 have:(strOfNums (l.map fun c=>(c.toNat:Int))).data.toList=l:=by
  rw[strOfNums_data,List.map_map]
  conv=>rhs;rw[<- List.map_id l]
  refine List.map_congr_left fun c _=>?_
  simp
 cases h:strOfNums (l.map fun c=>(c.toNat:Int)) with
 | mk d=>
  rw[h] at this
  simp only at this
  congr 1
  exact Array.toList_inj.1 (by simpa using this)
theorem Vl {obl:List (Option OB)}(hT:TabOk P T)(m:Mem E w S φ (fun r=>obl.getD r none)){src dst:Nat}{x:AV}{vx:Value}{K:AV->Prop}(hx:RepA S w φ (fun r=>obl.getD r none) x vx)(h:Xz T src dst x obl K) :
  GU K ((convert src dst vx).run P w) w:=by
 unfold Xz at h
 rw[AI] at h
 obtain⟨hsrc,h⟩:=h
 have hsc:(T.get src).kind.cls≠none:=fun hc=>by simp[hc] at hsrc
 have hts:=hT.of hsc
 obtain⟨ds,hds⟩ :∃d,P.underlying src=some d:=by
  cases hc:(T.get src).kind.cls with
  | none=>exact absurd hc hsc
  | some q=>cases q with
   | true=>obtain⟨d,hd,_⟩:=hts.kind.row hc;exact⟨d,hd⟩
   | false=>obtain⟨d,hd,_⟩:=hts.kind.plain hc;exact⟨d,hd⟩
 have hcl:(T.get dst).kind.cls≠none:=by
  intro hc
  cases hk:(T.get dst).kind<;>simp[hk,TK.cls] at hc
  simp[hk] at h
 have hti:=(hT.of hcl).kind
 split at h
 ·rename_i k _ n hk
  rw[hk] at hti
  obtain rfl:=hx.int
  obtain⟨r,rfl,hK⟩:=h
  refine⟨_,rfl,hK,?_⟩
  simp only[KindOk] at hti
  simp[convert,run_underlying hds,run_underlying hti,Conv.intToInt]
 ·rename_i s hk
  rw[hk] at hti
  obtain rfl:=hx.str
  refine⟨_,rfl,h,?_⟩
  simp only[KindOk] at hti
  simp only[convert,Sem.run_bind,run_underlying hds,run_underlying hti,Result.andThen_ok]
  cases ds<;>rfl
 ·rename_i hk _
  rw[hk] at hti
  simp only[KindOk] at hti
  split at h
  ·rename_i e hks
   have hsk:=hts.kind
   rw[hks] at hsk
   simp only[KindOk] at hsk
   split at h
   ·rename_i hke
    have hec:(T.get e).kind.cls≠none:=by rw[hke];simp[TK.cls]
    have hek:=(hT.of hec).kind
    rw[hke] at hek
    simp only[KindOk] at hek
    rw[AI] at h
    obtain⟨_,h⟩:=h
    obtain⟨sz,ys,hK,hsv⟩:=Jr m hx h
    rw[AI] at hK
    obtain⟨hsz,l,hl,hK⟩:=hK
    have hsz1:sz=1:=X30 hsz
    subst hsz1 hl
    refine⟨_,rfl,hK,?_⟩
    rcases hsv.v with ⟨⟨a2,c2,rfl⟩,h0⟩|⟨b,o,cap,f,rfl,hc,hr⟩
    ·have:l=[]:=by simpa using h0
     subst this
     cases a2 with
     | none=>
      rw[run_convert_bytes_nil w src e hsk hek 0 c2 dst hti]
      rfl
     | some a2=>
      rw[run_convert_bytes_string w src dst e _ 0 c2 hsk hek hti]
      simp[Conv.bytesToString,loadCells,loadCellsFrom]
      rfl
    rw[run_convert_bytes_arg w src e hsk hek b o _ cap (l.map fun c=>(c.toNat:Int)) (by simp) (fun i hi=>?_) dst hti,bytes_of_nums]
    have hi':i<(l.map fun c=>(D.u c.toNat:D)).length:=hi
    have h1:=hc i 0 hi' (by omega)
    have h2:=hr i hi' 0 (by simp[D.cells])
    simp only[Nat.mul_one,Nat.add_zero] at h1
    have hi'':i<l.length:=by simpa using hi'
    simp only[List.getElem_map,D.cells,List.getElem_cons_zero] at h2
    have h3:w.cell? ⟨b,o+i,none⟩=some (f i 0):=h1
    rw[h3]
    generalize f i 0=u at h2 ⊢
    cases h2 with | val _ _=>simp[hi'']
   exact h.elim
  exact h.elim
 exact h.elim
theorem Nh {t i o s ft:Nat}{fs:List (Nat×Nat×Nat)}(h:KindOk P t (.struct fs))(hi:fs[i]?=some (o,s,ft)) :
  ∃F f,P.underlying t=some (.struct F)/\F[i]?=some f/\f.offset=o/\f.type=ft/\(P.info? f.type).map (·.size)=some s:=by
 obtain⟨_,_,F,h1,h2,_⟩:=h
 have:=congrArg (fun l=>l[i]?) h2
 simp only[List.getElem?_map,hi,Option.map_some] at this
 cases hf:F[i]? with
 | none=>simp[hf] at this
 | some f=>
  simp[hf] at this
  exact⟨F,f,h1,hf,this.1,this.2.2,by simpa using this.2.1⟩
theorem LP {t i o s ft:Nat}{fs:List (Nat×Nat×Nat)}(h:KindOk P t (.struct fs))(hi:fs[i]?=some (o,s,ft))(hs:0<s)(b off:Nat) :
  (Instr.fieldAt t (.pointer (some ⟨b,off,none⟩)) i).run P w=.ok (.pointer (some ⟨b,off+o,none⟩)) w:=by
 obtain⟨F,f,h1,h2,h3,h4,h5⟩:=Nh h hi
 cases hq:P.info? f.type with
 | none=>simp[hq] at h5
 | some inf=>
  have hsz:inf.size=s:=by simpa[hq] using h5
  have hne:¬ s=0:=by omega
  simp[Instr.fieldAt,run_underlying h1,h2,Instr.sureAddr,fieldPlace,sizeOf,typeInfo,hq,hsz,hne,h3,Addr.add_none]
theorem Q2 (hT:TabOk P T){t i:Nat}{K:Nat->Nat->Nat->Prop}(h:OD T t i K) :∃o s ft fs,K o s ft/\KindOk P t (.struct fs)/\fs[i]?=some (o,s,ft)/\0<s:=by
 unfold OD at h
 split at h
 ·rename_i fs hk
  have hcl:(T.get t).kind.cls≠none:=by rw[hk];simp[TK.cls]
  have hkind:=(hT.of hcl).kind
  rw[hk] at hkind
  split at h
  ·rename_i o s ft hi
   split at h
   ·exact h.elim
   rename_i s'
   exact⟨o,s'+1,ft,fs,h,hkind,hi,Nat.succ_pos _⟩
  exact h.elim
 exact h.elim
theorem Gq {t e:Nat}(ht:P.underlying t=some (.slice e)){i:TypeInfo}(hi:P.info? e=some i)(b o n c:Nat)(k:IntKind)(j:Int)(h:0<=j/\j<n) :
  (Instr.indexAt t (.slice (some ⟨b,o,none⟩) n c) (.int k j)).run P w=.ok (.pointer (some ⟨b,o+j.toNat*i.size,none⟩)) w:=by
 simp[Instr.indexAt,run_underlying ht,asIntOf,h,sizeOf,typeInfo,hi,Addr.add_none]
theorem KL {t e m:Nat}(ht:P.underlying t=some (.array m e)){i:TypeInfo}(hi:P.info? e=some i)(b o:Nat)(k:IntKind)(j:Int)(h:0<=j/\j<m) :
  (Instr.indexAt t (.pointer (some ⟨b,o,none⟩)) (.int k j)).run P w=.ok (.pointer (some ⟨b,o+j.toNat*i.size,none⟩)) w:=by
 simp[Instr.indexAt,run_underlying ht,asIntOf,Instr.sureAddr,h,sizeOf,typeInfo,hi,Addr.add_none]
theorem A7 {t:Nat}(h:BS T t=true):(T.get t).kind.cls≠none:=by
 intro hc;simp[BS,hc] at h
theorem BB (hT:TabOk P T){t e:Nat}(h:(T.get t).kind=.slice e):P.underlying t=some (.slice e):=by
 have:=(hT.of (t:=t) (by rw[h];simp[TK.cls])).kind
 rwa [h] at this
theorem NF (hT:TabOk P T){t n e:Nat}(h:(T.get t).kind=.arr n e):P.underlying t=some (.array n e):=by
 have:=(hT.of (t:=t) (by rw[h];simp[TK.cls])).kind
 rwa [h] at this
theorem NR {obl:List (Option OB)}(hT:TabOk P T){t:Nat}{x y:AV}{vx vy:Value}{K:AV->Prop}(hx:RepA S w φ (fun r=>obl.getD r none) x vx)
  (hcx:Closed (fun r=>obl.getD r none) x) (hy:RepA S w φ (fun r=>obl.getD r none) y vy) (h:Io T t x y obl K) :
  ∃out u,K out/\(Instr.indexAt t vx vy).run P w=.ok u w/\RepA S w φ (fun r=>obl.getD r none) out u/\Closed (fun r=>obl.getD r none) out:=by
 unfold Io at h
 split at h
 ·obtain rfl:=hy.int
  rename_i k i
  split at h
  ·rename_i e sz es hk
   simp only[AI] at h
   obtain⟨hkn,hsz,hb,v,hv,hvl,hK⟩:=h
   have hte:=hT.of (A7 hkn)
   obtain⟨inf,z,hinf,hi1,_⟩:=hte.info
   have hsz':sz=(T.get e).size:=X30 hsz
   cases hx with | d _ _ hx=>
   cases hx with
   | lst0=>simp at hb;omega
   | lst _ _ b o cap f hl hc hsz2 hS hn hr=>
    have hlt:i.toNat<es.length:=by omega
    have hve:v=es[i.toNat]:=by rw[<- hv];simp[hlt]
    subst hve
    refine⟨_,_,hK,Gq (BB hT hk) hinf b o _ cap k i hb,?_,fun r hr=>by simp[AV.refs] at hr⟩
    rw[hi1,<- hsz']
    exact .eref _ b _ (f i.toNat) (fun j hj=>hS i.toNat j hlt (by rw[hsz2] at hj;exact hj)) (fun j hj=>hn _ hlt j hj) fun j hj=>hr _ hlt j hj
  ·rename_i e r n hk
   rw[A1] at h
   obtain⟨o,ho,h⟩:=h
   cases o with
   | box cs=>
    simp only[AI] at h
    obtain⟨hkn,hsz,rfl,hK⟩:=h
    have hte:=hT.of (A7 hkn)
    obtain⟨inf,z,hinf,hi1,_⟩:=hte.info
    cases hx with | own _ _ _ kk c a0 hv hkn h1 hbx=>
    obtain⟨rfl,b,c',a1,hv2⟩:=hbx cs ho
    rw[hv2]
    refine⟨_,_,hK,Gq (BB hT hk) hinf b 0 1 1 k 0 (by omega),?_,fun r' hr'=>hcx r' (by simpa[AV.refs] using hr')⟩
    have e0:(0:Nat)+(0:Int).toNat*inf.size=0:=by simp
    rw[e0]
    refine .ref r 0 b c' a1 fun e2 sz2 es2 frz2 hx2=>?_
    rw[ho] at hx2
    simp at hx2
   | map=>simp at h
   | amap=>simp at h
   | gone=>simp at h
   | row e' sz es frz=>
    simp only[AI] at h
    obtain⟨hkn,hsz,hn,hb,hK⟩:=h
    have hte:=hT.of (A7 hkn)
    obtain⟨inf,z,hinf,hi1,_⟩:=hte.info
    have hsz':sz=(T.get e).size:=X30 hsz
    cases hx with | own _ _ _ kk c a0 hv hkn h1 hbx=>
    rcases (h1 e' sz es frz ho).2 hn with ⟨a1,a2,_,rfl⟩|⟨b,cap,a1,rfl⟩
    ·omega
    refine⟨_,_,hK,Gq (BB hT hk) hinf b cap.2 n cap.1 k i (by omega),?_,fun r' hr'=>hcx r' (by simpa[AV.refs] using hr')⟩
    rw[hi1,<- hsz',<- Nat.add_zero (i.toNat*sz)]
    refine .rref r n i.toNat 0 _ (fun e2 sz2 es2 frz2 hx2=>?_) (fun cs hx2=>by rw[ho] at hx2;simp at hx2) ⟨_,rfl⟩
    rw[ho] at hx2
    simp only[X24,OB.row.injEq] at hx2
    obtain⟨rfl,rfl,rfl,rfl⟩:=hx2
    exact⟨by omega,fun _=>⟨by omega,b,cap,a1,rfl⟩⟩
  ·rename_i n e r off hk
   simp only[AI] at h
   obtain⟨hkn,_,⟨hb,hK⟩|⟨hs1,hb,j,hj,hK⟩⟩:=h
   rotate_left
   ·have hte:=hT.of (A7 hkn)
    obtain⟨inf,z,hinf,hi1,_⟩:=hte.info
    have hs1:=X30 hs1
    cases hx with | ref _ _ b c hφ hbx=>
    refine⟨_,_,hK,KL (NF hT hk) hinf b off k i hb,?_,fun r' hr'=>hcx r' (by simpa[AV.refs] using hr')⟩
    rw[hi1,hs1,Nat.mul_one,hj]
    exact .rref r n j off _ (fun e2 sz2 es2 f2 hx2=>absurd hx2 (hbx _ _ _ _)) (fun cs hx2=>⟨b,c,hφ,rfl⟩) ⟨_,rfl⟩
   have hte:=hT.of (A7 hkn)
   obtain⟨inf,z,hinf,hi1,_⟩:=hte.info
   cases hx with | ref _ _ b c hφ hbx=>
   refine⟨_,_,hK,KL (NF hT hk) hinf b off k i hb,?_,fun r' hr'=>hcx r' (by simpa[AV.refs] using hr')⟩
   rw[hi1]
   exact .ref r _ b c hφ hbx
  exact h.elim
 exact h.elim
theorem Ou {obl:List (Option OB)}(hT:TabOk P T){t r a n m:Nat}{y:AV}{vx vy:Value}{K:AV->Prop}(hx:RepA S w φ (fun r=>obl.getD r none) (.osl r a n m) vx)
  (hcx:Closed (fun r=>obl.getD r none) (.osl r a n m)) (hy:RepA S w φ (fun r=>obl.getD r none) y vy) (h:Jf T t r a n m y obl K) :
  ∃out u,K out/\(Instr.indexAt t vx vy).run P w=.ok u w/\RepA S w φ (fun r=>obl.getD r none) out u/\Closed (fun r=>obl.getD r none) out:=by
 unfold Jf at h
 split at h
 ·obtain rfl:=hy.int
  rename_i kk i
  split at h
  ·rename_i e hk
   rw[A1] at h
   obtain⟨o,ho,h⟩:=h
   cases o with
   | box=>simp at h
   | map=>simp at h
   | amap=>simp at h
   | gone=>simp at h
   | row e' sz es frz=>
    simp only[AI] at h
    obtain⟨hkn,hsz,hn,hb,j,hj,hK⟩:=h
    have hte:=hT.of (A7 hkn)
    obtain⟨inf,z,hinf,hi1,_⟩:=hte.info
    have hsz':sz=(T.get e).size:=X30 hsz
    cases hx with | osl _ _ _ _ _ k c a0 hv hkn' h1=>
    obtain⟨q1,q2,_⟩:=(h1 e' sz es frz ho).2 hn
    rcases q2 with q2 | ⟨b,cap,c',q2,q3,_⟩
    ·omega
    rw[q3]
    refine⟨_,_,hK,Gq (BB hT hk) hinf b (cap.2+a*sz) n c' kk i (by omega),?_,fun r' hr'=>hcx r' (by simpa[AV.refs] using hr')⟩
    have e1:cap.2+a*sz+i.toNat*inf.size=cap.2+(j*sz+0):=by rw[hi1,<- hsz',Nat.add_assoc,<- X32,hj,Nat.add_zero]
    rw[e1]
    refine .rref r m j 0 _ (fun e2 sz2 es2 frz2 hx2=>?_) (fun cs hx2=>by rw[ho] at hx2;simp at hx2) ⟨_,rfl⟩
    rw[ho] at hx2
    simp only[X24,OB.row.injEq] at hx2
    obtain⟨rfl,rfl,rfl,rfl⟩:=hx2
    exact⟨by omega,fun _=>⟨by omega,b,cap,q2,rfl⟩⟩
  exact h.elim
 exact h.elim
theorem PD {obl:List (Option OB)}(hT:TabOk P T){t:Nat}{x y:AV}{vx vy:Value}{K:AV->Prop}(hx:RepA S w φ (fun r=>obl.getD r none) x vx)
  (hcx:Closed (fun r=>obl.getD r none) x) (hy:RepA S w φ (fun r=>obl.getD r none) y vy) (h:J3 T t x y obl K) :
  ∃out u,K out/\(Instr.indexAt t vx vy).run P w=.ok u w/\RepA S w φ (fun r=>obl.getD r none) out u/\Closed (fun r=>obl.getD r none) out:=by
 unfold J3 at h
 split at h
 ·exact Ou hT hx hcx hy h
 exact NR hT hx hcx hy h
theorem LQ {x:AV}{vx:Value}{K:List AV->Prop}(hx:RepA S w φ ob x vx)(hc:Closed ob x)(h:JS x K) :
  ∃cs vs,K cs/\vx=.agg vs/\vs.size=cs.length/\(∀i (hi:i<cs.length),∃u,vs[i]?=some u/\cs[i].one=true/\RepA S w φ ob cs[i] u)/\∀c∈cs,Closed ob c:=by
 unfold JS at h
 split at h
 ·rename_i cs
  have hm :∀(cs:List D) (K:List AV->Prop),QH (fun c K=>K (AV.d c)) cs K↔K (cs.map .d):=by
   intro cs
   induction cs with
   | nil=>intro K;simp[QH]
   | cons c cs ih=>intro K;simp[QH,ih]
  rw[hm] at h
  cases hx with | d _ _ hx=>
  cases hx with | agg _ vs f hs hf hn hr=>
  refine⟨_,vs,h,rfl,by simpa using hs,fun i hi=>⟨f i,hf i (by simpa using hi),?_,?_⟩,fun c hm=>?_⟩
  ·simpa[AV.one] using hn i (by simpa using hi)
  ·simpa using RepA.d _ _ (hr i (by simpa using hi))
  obtain⟨y,_,rfl⟩:=List.mem_map.1 hm
  exact BJ ob y
 ·rename_i cs
  cases hx with | agg _ vs f hs hf hn hr=>
  refine⟨cs,vs,h,rfl,hs,fun i hi=>⟨f i,hf i hi,hn i hi,hr i hi⟩,fun c hm r hr'=>?_⟩
  obtain⟨j,hj,rfl⟩:=List.getElem_of_mem hm
  exact hc r (AV.refs_mem cs j hj r hr')
 exact h.elim
theorem VR (hT:TabOk P T){t off:Nat}{cs:List AV}{vs:Array Value}{K:AV->Prop}(hs:vs.size=cs.length)(hr :∀i (hi:i<cs.length),∃u,vs[i]?=some u/\cs[i].one=true/\RepA S w φ ob cs[i] u)
  (hc :∀c∈cs,Closed ob c) (h:XZ T t cs off K) :∃out u,K out/\(part t vs off).run P w=.ok u w/\RepA S w φ ob out u/\Closed ob out:=by
 unfold XZ at h
 cases hcl:(T.get t).kind.cls with
 | none=>simp[hcl] at h
 | some q=>
  have hti:=hT.of (t:=t) (by rw[hcl];simp)
  cases q with
  | true=>
   simp only[hcl,G0,AI,GX,Gy,Nat.ble_eq,X17] at h
   refine⟨_,_,h.2,Je hti hcl,?_,Ik fun c hm=>hc c (List.mem_of_mem_drop (List.mem_of_mem_take hm))⟩
   refine Nr (by simp[hs];omega) fun i hi=>?_
   simp only[X18,X17] at hi
   obtain⟨u,h1,h2,h3⟩:=hr (off+i) (by omega)
   refine⟨u,?_,?_,?_⟩
   ·rw[Array.getElem?_extract,if_pos (by omega)];exact h1
   ·simpa[List.getElem_take,List.getElem_drop] using h2
   simpa[List.getElem_take,List.getElem_drop] using h3
  | false=>
   simp only[hcl] at h
   cases hg:cs[off]? with
   | none=>simp[hg] at h
   | some x=>
    simp only[hg,Bn] at h
    obtain⟨p1,p2⟩:=X16.1 hg
    obtain⟨d,hu,hd⟩:=hti.kind.plain hcl
    obtain⟨u,h1,h2,h3⟩:=hr off p1
    exact⟨x,u,h,run_part_plain hu hd h1,p2 ▸ h3,hc x (List.mem_of_getElem? hg)⟩
theorem Ua (hT:TabOk P T){t i:Nat}{x:AV}{vx:Value}{K:AV->Prop}(hx:RepA S w φ ob x vx)(hc:Closed ob x)(h:UU T t i x K) :
  ∃out u,K out/\(Instr.field t vx i).run P w=.ok u w/\RepA S w φ ob out u/\Closed ob out:=by
 unfold UU at h
 split at h
 ·rename_i fs hk
  have hkind:=(hT.of (t:=t) (by rw[hk];simp[TK.cls])).kind
  rw[hk] at hkind
  split at h
  ·rename_i o s ft hi
   obtain⟨cs,vs,hK,rfl,hs,hr,hcl⟩:=LQ hx hc h
   obtain⟨F,f,h1,h2,h3,h4,h5⟩:=Nh hkind hi
   obtain⟨out,u,g1,g2,g3,g4⟩:=VR hT hs hr hcl hK
   refine⟨out,u,g1,?_,g3,g4⟩
   simp only[Instr.field,Sem.run_bind,run_underlying h1,Result.andThen_ok,h2,asAgg,Sem.run_pure,h3,h4,g2]
  exact h.elim
 exact h.elim
theorem UA (hT:TabOk P T){t:Nat}{x y:AV}{vx vy:Value}{K:AV->Prop}(hx:RepA S w φ ob x vx)(hc:Closed ob x)(hy:RepA S w φ ob y vy)(h:T0 T t x y K) :
  ∃out u,K out/\(Instr.index t vx vy).run P w=.ok u w/\RepA S w φ ob out u/\Closed ob out:=by
 unfold T0 at h
 split at h
 ·obtain rfl:=hy.int
  rename_i k i
  split at h
  ·rename_i s hk
   have hkind:=(hT.of (t:=t) (by rw[hk];simp[TK.cls])).kind
   rw[hk] at hkind
   simp only[KindOk] at hkind
   obtain rfl:=hx.str
   obtain⟨hb,c,hcc,hK⟩:=h
   refine⟨_,.int .u8 c.toNat,hK,?_,.d _ _ (.val _ rfl),BJ _ _⟩
   have hlt:i.toNat<s.size:=by omega
   have:s[i.toNat]?=some c:=by
    have h1:s.toList.getD i.toNat 0=s[i.toNat]:=by
     rw[ByteArray.toList_eq]
     have hl:i.toNat<s.data.toList.length:=by rw[Array.length_toList];exact hlt
     rw[List.getD_eq_getElem?_getD,X15 hl]
     rfl
    rw[<- hcc,h1]
    exact getElem?_pos s i.toNat hlt
   simp only[Instr.index,asIntOf,Sem.run_bind,Sem.run_pure,Result.andThen_ok,run_underlying hkind,if_pos hb.1,this]
  ·rename_i n e hk
   obtain⟨cs,vs,hK,rfl,hs,hr,hcl⟩:=LQ hx hc h
   obtain⟨hb,hK⟩:=hK
   split at hK
   ·rename_i hce
    obtain⟨a,ha,hK⟩:=hK
    rw[Bn] at hK
    have hte:=hT.of (t:=e) (by rw[hce];simp)
    obtain⟨d,hu,hd⟩:=hte.kind.plain hce
    obtain⟨inf,z,hinf,hi1,_⟩:=hte.info
    obtain⟨p1,p2⟩:=X16.1 ha
    obtain⟨u,h1,h2,h3⟩:=hr _ p1
    refine⟨a,u,hK,?_,p2 ▸ h3,hcl a (List.mem_of_getElem? ha)⟩
    have e1:(sizeOf e).run P w=.ok (T.get e).size w:=by simp[sizeOf,typeInfo,hinf,hi1]
    have e2:=run_part_plain (w:=w) hu hd h1
    have e3:=run_underlying (NF hT hk) w
    simp only[Instr.index,asIntOf,Sem.run_bind,Sem.run_pure,Result.andThen_ok,e3,if_pos hb,e1,e2]
   exact hK.elim
  exact h.elim
 exact h.elim
end
end Go.AX
end
section
namespace Go.AX
section
variable {P:Program} {T:TT} {E:Env} {w:World} {S:Sc} {φ:Nat->Option (Nat×Rp)} {ob:Nat->Option OB}
theorem Za (cells:Array Value)(off:Nat)(v:Value)(h:off+v.cells.size<=cells.size) :
  v.cells.zipIdx.foldl (fun cs (c,j)=>cs.setIfInBounds (off+j) c) cells=(BY cells.toList off v.cells.toList).toArray:=by
 have hg:=Great.foldl_set off v.cells.toList 0 cells
 have e:v.cells.zipIdx.foldl (fun cs (c,j)=>cs.setIfInBounds (off+j) c) cells=(v.cells.toList.zipIdx 0).foldl (fun cs (x:Value×Nat)=>cs.setIfInBounds (off+x.2) x.1) cells:=by
  rw[<- Array.foldl_toList,Array.toList_zipIdx]
 rw[e]
 apply Array.ext_getElem?
 intro k
 rw[hg.2 k,Nat.add_zero]
 have ho:=EY cells.toList off v.cells.toList (by simpa using h) k
 simp only[Array.length_toList,List.getElem?_toArray,Array.getElem?_toList] at ho ⊢
 rw[ho]
 by_cases hin:off<=k/\k<off+v.cells.size
 ·rw[if_pos hin,if_pos ⟨hin.1,hin.2,by omega⟩]
 rw[if_neg hin,if_neg (fun h=>hin ⟨h.1,h.2.1⟩)]
def RepL (S:Sc)(w:World)(φ:Nat->Option (Nat×Rp))(ob:Nat->Option OB)(cs:List AV)(vs:Array Value):Prop:=
 vs.size=cs.length/\∀i (hi:i<cs.length),∃u,vs[i]?=some u/\cs[i].one=true/\RepA S w φ ob cs[i] u
theorem RepL.over {cs xs:List AV}{vs us:Array Value}(h:RepL S w φ ob cs vs)(k:RepL S w φ ob xs us){off:Nat}(hle:off+xs.length<=cs.length) :
  RepL S w φ ob (BY cs off xs) (BY vs.toList off us.toList).toArray:=by
 have h1:off+us.toList.length<=vs.toList.length:=by simp[h.1,k.1];omega
 refine⟨by rw[List.size_toArray,Bg _ _ _ h1,Bg _ _ _ hle];simp[h.1],fun i hi=>?_⟩
 have e1:=EY cs off xs hle i
 have e2:=EY vs.toList off us.toList h1 i
 rw[Bg _ _ _ hle] at hi
 have hi2:i<(BY cs off xs).length:=by rw[Bg _ _ _ hle];exact hi
 rw[X15 hi2] at e1
 simp only[Array.length_toList,k.1,Array.getElem?_toList] at e2
 by_cases hin:off<=i/\i<off+xs.length
 ·rw[if_pos hin,X15 (by omega)] at e1
  rw[if_pos hin] at e2
  obtain⟨u,g1,g2,g3⟩:=k.2 (i-off) (by omega)
  refine⟨u,by rw[List.getElem?_toArray,e2];exact g1,?_,?_⟩
  ·rw[X25 e1];exact g2
  rw[X25 e1];exact g3
 rw[if_neg hin,X15 hi] at e1
 rw[if_neg hin] at e2
 obtain⟨u,g1,g2,g3⟩:=h.2 i hi
 refine⟨u,by rw[List.getElem?_toArray,e2];exact g1,?_,?_⟩
 ·rw[X25 e1];exact g2
 rw[X25 e1];exact g3
theorem U1 {cs xs:List AV}{off:Nat}(h :∀c∈cs,Closed ob c)(k :∀c∈xs,Closed ob c) :∀c∈BY cs off xs,Closed ob c:=by
 intro c hm
 simp only[BY,X23] at hm
 rcases hm with (hm | hm)|hm
 ·exact h c (List.mem_of_mem_take hm)
 ·exact k c hm
 exact h c (List.mem_of_mem_drop hm)
inductive All2 {α β:Type}(R:α->β->Prop):List α->List β->Prop
 | nil:All2 R [] []
 | cons {a:α} {b:β} {l:List α} {k:List β} (h:R a b) (hs:All2 R l k):All2 R (a::l) (b::k)
theorem All2.imp {α β:Type}{R R':α->β->Prop}{l:List α}{k:List β}(h:All2 R l k)(f :∀a b,R a b->R' a b):All2 R' l k:=by
 induction h with
 | nil=>exact .nil
 | cons h _ ih=>exact .cons (f _ _ h) ih
def Jx (S:Sc)(w:World)(φ:Nat->Option (Nat×Rp))(ob:Nat->Option OB)(ps:List (Nat×AV))(vs:List (Nat×Value)):Prop:=
 All2 (fun p q=>p.1=q.1/\RepA S w φ ob p.2 q.2/\Closed ob p.2) ps vs
theorem MQ {place:Nat->Option (Nat×Nat)} :∀{ps:List (Nat×AV)} {vs:List (Nat×Value)} (_:Jx S w φ ob ps vs) {cs:List AV} {cells:Array Value} {K:List AV->Prop} (_:RepL S w φ ob cs cells)
  (_ :∀c∈cs,Closed ob c) (_:KU.go place ps cs K),∃cs' cells',K cs'/\Instr.fill place cells vs=some cells'/\RepL S w φ ob cs' cells'/\∀c∈cs',Closed ob c
 | [],[],_,cs,cells,K,hr,hc,h=>⟨cs,cells,h,rfl,hr,hc⟩
 | (i,v)::ps,(j,u)::vs,hp,cs,cells,K,hr,hc,h=>by
  cases hp with | cons h1 h2=>
  obtain⟨hij,hv,hcv⟩:=h1
  simp only at hij hv hcv
  subst hij
  simp only[KU.go] at h
  cases hpl:place i with
  | none=>simp[hpl] at h
  | some q=>
   obtain⟨off,size⟩:=q
   simp only[hpl,Gx,AI,G1] at h
   obtain⟨l,hl,hsz,hle,h⟩:=h
   have hsz':l.length=size:=X30 hsz
   obtain⟨k1,k2⟩:=PK hv hl
   have hkl:RepL S w φ ob l u.cells:=⟨k1,k2⟩
   have hle':off+u.cells.size<=cells.size:=by rw[k1,hr.1];exact hle
   obtain⟨cs',cells',g1,g2,g3,g4⟩:=MQ h2 (hr.over hkl hle) (U1 (off:=off) hc (J2 hcv hl)) h
   refine⟨cs',cells',g1,?_,g3,g4⟩
   rw[Instr.fill]
   simp only[hpl]
   rw[if_neg (by simp[k1,hsz'];rw[k1,hsz'] at hle';omega),Za _ _ _ hle']
   exact g2
 | [],_::_,hp,_,_,_,_,_,_=>by cases hp
 | _::_,[],hp,_,_,_,_,_,_=>by cases hp
theorem O4 {t:Nat}(hT:TabOk P T)(hc:(T.get t).kind.cls≠none){i:TypeInfo}{z:Value}(hi:P.info? t=some i)(hz:i.zero=some z):RepL S w φ ob ((T.get t).zero.map .d) z.cells/\∀c∈(T.get t).zero.map AV.d,Closed ob c:=by
 obtain⟨h1,_,h3⟩:=WZ (hT.of hc) hi hz S w φ ob
 refine⟨⟨h1,h3⟩,fun c hm=>?_⟩
 obtain⟨x,_,rfl⟩:=List.mem_map.1 hm
 exact BJ ob x
theorem UT (hT:TabOk P T){t:Nat}{ps:List (Nat×AV)}{vs:Array (Nat×Value)}{K:AV->Prop}(hp:Jx S w φ ob ps vs.toList)(h:KU T t ps K) :
  ∃out u,K out/\(Instr.build t vs).run P w=.ok u w/\RepA S w φ ob out u/\Closed ob out:=by
 unfold KU at h
 split at h
 ·rename_i fs hk
  have hcl:(T.get t).kind.cls≠none:=by rw[hk];simp[TK.cls]
  have hti:=hT.of hcl
  obtain⟨i,z,hi,h1,h2,hz,h4,h5,_⟩:=hti.info
  obtain⟨hr,hc⟩:=O4 (S:=S) (w:=w) (φ:=φ) (ob:=ob) hT hcl hi hz
  obtain⟨cs',cells',g1,g2,g3,g4⟩:=MQ hp hr hc h
  rw[Gy] at g1
  refine⟨_,.agg cells',g1,?_,Nr g3.1 g3.2,Ik g4⟩
  refine run_build w t vs cells' ?_
  have hkind:=hti.kind
  rw[hk] at hkind
  obtain⟨_,_,F,hu,hF,_⟩:=hkind
  have hplaces:F.toList.mapM (fun f=>(P.info? f.type).map fun i=>(f.offset,i.size))=some (fs.map fun x=>(x.1,x.2.1)):=by
   clear g2 g1 h hu hk
   generalize F.toList=F' at hF
   induction F' generalizing fs with
   | nil=>cases fs with
    | nil=>rfl
    | cons=>simp at hF
   | cons f F' ih=>
    cases fs with
    | nil=>simp at hF
    | cons x fs=>
     simp only[List.map_cons,List.cons.injEq,X26] at hF
     obtain⟨⟨a1,a2,a3⟩,a4⟩:=hF
     have:=ih fs a4
     cases hq:P.info? f.type with
     | none=>simp[hq] at a2
     | some inf=>
      simp[hq] at a2
      simp[List.mapM_cons,hq,this,a1,a2]
  unfold Program.built
  simp only[hi,hu,hz,hplaces]
  have hpl:(fun x=>(fs.map fun x=>(x.1,x.2.1)).toArray[x]?)=(fun (i:Nat)=>match (fs[i]?:Option (Nat×Nat×Nat)) with
   | some (o,s,_)=>some (o,s)
   | none=>none):=by
   funext k
   simp only[List.getElem?_toArray,List.getElem?_map]
   cases fs[k]?<;>rfl
  rw[hpl]
  exact g2
 ·rename_i n e hk
  have hcl:(T.get t).kind.cls≠none:=by rw[hk];simp[TK.cls]
  have hti:=hT.of hcl
  rw[AI] at h
  obtain⟨hkn,h⟩:=h
  have hte:=hT.of (A7 hkn)
  obtain⟨i,z,hi,h1,h2,hz,h4,h5,_⟩:=hti.info
  obtain⟨ie,ze,hie,he1,_⟩:=hte.info
  obtain⟨hr,hc⟩:=O4 (S:=S) (w:=w) (φ:=φ) (ob:=ob) hT hcl hi hz
  obtain⟨cs',cells',g1,g2,g3,g4⟩:=MQ hp hr hc h
  rw[Gy] at g1
  refine⟨_,.agg cells',g1,?_,Nr g3.1 g3.2,Ik g4⟩
  refine run_build w t vs cells' ?_
  unfold Program.built
  simp only[hi,NF hT hk,hz,hie]
  have key :∀(vs:List (Nat×Value)) (c c':Array Value),Instr.fill (fun i=>match Nat.blt i n with
    | true=>some (i*(T.get e).size,(T.get e).size)
    | false=>none) c vs=some c'->Instr.fill (fun i=>some (i*ie.size,ie.size)) c vs=some c':=by
   intro vs
   induction vs with
   | nil=>intro c c' h;exact h
   | cons v vs ih=>
    intro c c' h
    obtain⟨j,v⟩:=v
    rw[Instr.fill] at h ⊢
    cases hb:Nat.blt j n with
    | false=>simp[hb] at h
    | true=>
     simp only[hb] at h
     rw[he1]
     split at h
     ·simp at h
     rename_i hne
     simp only[]
     rw[if_neg hne]
     have:=ih _ _ h
     rw[he1] at this
     exact this
  exact key _ _ _ g2
 exact h.elim
theorem XG (f:Nat->Option OB)(r:Nat)(x y:Option OB):upd (upd f r x) r y=upd f r y:=by
 funext i
 by_cases h:i=r<;>simp[upd,h]
theorem AT (ob:Nat->Option OB)(a b:W):Au ob (a++b)=Au (Au ob a) b:=by
 induction a generalizing ob with
 | nil=>rfl
 | cons x a ih=>obtain⟨r,o⟩:=x;simp[Au,ih]
theorem PR {obl:List (Option OB)}{sz:Nat} :∀{ps:List (Nat×AV)} {vs:List (Nat×Value)} {i:Nat} {S:Sc} {ob:Nat->Option OB} {K:List D->W->Prop} (_:Mem E w S φ ob) (_:FrzExt (fun r=>obl.getD r none) ob)
  (_:All2 (fun p q=>p.1=q.1/\RepA S w φ ob p.2 q.2/\Closed (fun r=>obl.getD r none) p.2) ps vs) (_:E4.elems obl sz i ps K),
  ∃es wr S',K es wr/\Mem E w S' φ (Au ob wr)/\Kept w S φ ob w S' φ (Au ob wr)/\FrzExt (fun r=>obl.getD r none) (Au ob wr)/\UR obl wr/\es.length=vs.length/\
   vs=((vs.map (·.2)).zipIdx i).map (fun x=>(x.2,x.1))/\(∀j (hj:j<es.length),es[j].cells.length=sz)/\∀j (hj:j<es.length) (hj':j<vs.length),RepD S' w es[j] vs[j].2
 | [],[],i,S,ob,K,m,hx,_,h=>⟨[],[],S,h,m,.refl w S φ ob,hx,fun _ _ hm=>by simp at hm,rfl,rfl,fun j hj=>by simp at hj,fun j hj=>by simp at hj⟩
 | (j,v)::ps,(j',u)::vs,i,S,ob,K,m,hx,hp,h=>by
  cases hp with | cons h1 h2=>
  obtain⟨hij,hv,hcv⟩:=h1
  simp only at hij hv hcv
  subst hij
  simp only[E4.elems] at h
  cases hb:Nat.beq i j with
  | false=>simp[hb] at h
  | true=>
   have hji:i=j:=X30 hb
   subst hji
   simp only[hb] at h
   obtain⟨x,wr,S1,hK,m1,k1,hd,hx1,hw1⟩:=Dw m hx hv h
   rw[AI] at hK
   obtain⟨hsz,hK⟩:=hK
   have hp1:All2 (fun (p:Nat×AV) (q:Nat×Value)=>p.1=q.1/\RepA S1 w φ (Au ob wr) p.2 q.2/\Closed (fun r=>obl.getD r none) p.2) ps vs:=by
    refine h2.imp fun p q hpq=>⟨hpq.1,k1.rep (fun r hr=>?_) hpq.2.1,hpq.2.2⟩
    have h3:=hpq.2.2 r hr
    rcases hx r with e1 | ⟨e,sz',es,f,e1,e2⟩
    ·rw[e1];exact h3
    rw[e2];simp
   obtain⟨es,wr2,S2,g1,g2,g3,g4,g5,g6,g7,g8,g9⟩:=PR m1 hx1 hp1 hK
   refine⟨x::es,wr++wr2,S2,g1,by rw[AT];exact g2,by rw[AT];exact k1.trans g3,by rw[AT];exact g4,fun r o hm=>?_,by simp[g6],?_,fun k hk=>?_,fun k hk hk'=>?_⟩
   ·rcases X23.1 hm with hm | hm
    ·exact hw1 r o hm
    exact g5 r o hm
   ·simp only[List.map_cons,List.zipIdx_cons]
    rw[<- g7]
   ·cases k with
    | zero=>exact X30 hsz
    | succ k=>exact g8 k (by simpa using hk)
   cases k with
   | zero=>exact hd.mono g3.k
   | succ k=>exact g9 k (by simpa using hk) (by simpa using hk')
 | [],_::_,_,_,_,_,_,_,hp,_=>by cases hp
 | _::_,[],_,_,_,_,_,_,hp,_=>by cases hp
theorem C6 {obl:List (Option OB)}{r:Nat}(h:obl[r]?=some none):obl.getD r none=none/\r<obl.length:=by
 obtain⟨h1,h2⟩:=X16.1 h
 exact⟨by simp[h],h1⟩
theorem FrzExt.none {ob ob':Nat->Option OB}(h:FrzExt ob ob'){r:Nat}(hr:ob r=Option.none):ob' r=Option.none:=by
 rcases h r with e | ⟨e,sz,es,f,e1,_⟩
 ·rw[e,hr]
 rw[hr] at e1;simp at e1
theorem Lr {t e:Nat}(hu:P.underlying t=some (.slice e)){ie:TypeInfo}(hie:P.info? e=some ie) :
  (Instr.buildSlice t 0 #[]).run P w=.ok (.slice (some ⟨w.heap.size,0,none⟩) 0 0) (w.alloc (.cells #[] e)):=by
 have h0:Array.range 0=#[]:=by simp
 simp[Instr.buildSlice,run_underlying hu,sizeOf,typeInfo,hie,Instr.fill,newRow,h0]
theorem KE {obl:List (Option OB)}(hT:TabOk P T)(m:Mem E w S φ (fun r=>obl.getD r none)){t len self:Nat}{ps:List (Nat×AV)}{vs:Array (Nat×Value)}{K:AV->W->Prop}
  (hp:Jx S w φ (fun r=>obl.getD r none) ps vs.toList) (h:E4 T t len self ps obl K) :
  ∃out wr u w',K out wr/\(∀r o,(r,o)∈wr->r<obl.length)/\(Instr.buildSlice t len vs).run P w=.ok u w'/\Post E w S φ (fun r=>obl.getD r none) out wr u w':=by
 unfold E4 at h
 split at h
 ·rename_i e hk
  rw[E6,AI,AI] at h
  obtain⟨hself,hcond,hkn,h⟩:=h
  rw[X27] at hcond
  obtain⟨hc1,hc2⟩:=hcond
  have hpos:0<(T.get e).size:=X29 hc1
  have hbig:len*(T.get e).size<=16777216:=X29 hc2
  obtain⟨hs1,hs2⟩:=C6 hself
  have hte:=hT.of (A7 hkn)
  obtain⟨ie,z,hie,hi1,hi2,hz,hz1,_⟩:=hte.info
  obtain⟨es,wr,S1,hK,m1,k1,hx1,hw1,hl1,hv1,hsz1,hr1⟩:=PR m (FrzExt.refl _) hp h
  rw[AI] at hK
  obtain⟨hlen,hK⟩:=hK
  have hlen':es.length=len:=X30 hlen
  let vals:=vs.toList.map (·.2)
  have hvl:vals.length=len:=by simp only[vals,X10];omega
  have hvc :∀v∈vals,v.cells.size=(T.get e).size:=by
   intro v hm
   obtain⟨j,hj,rfl⟩:=List.getElem_of_mem hm
   have hj':j<vs.toList.length:=by simpa[vals] using hj
   have:=(hr1 j (by omega) hj').cells.1
   rw[hsz1 j (by omega)] at this
   simpa[vals] using this
  have hbl :∀r o,(r,o)∈wr++[(self,OB.row e (T.get e).size es .no)]->r<obl.length:=by
   intro r o hm
   rcases X23.1 hm with hm | hm
   ·obtain⟨e',sz',es',f',e1,_⟩:=hw1 r o hm
    exact Bo obl r _ e1
   simp only[X14,X26] at hm
   rw[hm.1];exact hs2
  obtain⟨cells,hrun,hcs,hcell⟩ :∃cells:Array Value,(Instr.buildSlice t len vs).run P w=.ok (.slice (some ⟨w.heap.size,0,none⟩) len len) (w.alloc (.cells cells e))/\cells.size=len*(T.get e).size/\
    ∀i j (hi:i<vals.length) (_:j<(T.get e).size),cells[i*(T.get e).size+j]?=vals[i].cells[j]?:=by
   by_cases h0:len=0
   ·subst h0
    have:vs=#[]:=by
     have:vs.toList.length=0:=by omega
     exact Array.toList_eq_nil_iff.1 (List.eq_nil_of_length_eq_zero this)
    subst this
    exact⟨#[],Lr (BB hT hk) hie,by simp,fun i j hi=>by rw[hvl] at hi;exact absurd hi (Nat.not_lt_zero _)⟩
   obtain⟨r,g1,g2,g3⟩:=Great.fill_dense hpos vals 0 ((Array.range (len*(T.get e).size)).map (z.cells[· % z.cells.size]!)) hvc (by simp[hvl])
   refine⟨r,?_,by simpa using g2,fun i j hi hj=>?_⟩
   ·have hfill:Instr.fill (fun i=>some (i*ie.size,ie.size)) ((Array.range (len*ie.size)).map (z.cells[· % z.cells.size]!)) vs.toList=some r:=by
     rw[hi1,hv1]
     exact g1
    exact run_buildSlice w t e len vs r ie z (BB hT hk) hie hz (by rw[hi1];omega) (by rw[hi1];exact Nat.mul_ne_zero h0 (by omega)) hfill
   rw[g3]
   have hlt:(i+1)*(T.get e).size<=vals.length*(T.get e).size:=X31 _ hi
   rw[X32] at hlt
   rw[if_pos ⟨by omega,by rw[Nat.zero_add];omega⟩]
   have e1:(i*(T.get e).size+j)/(T.get e).size=i:=by rw[Nat.mul_comm,Nat.mul_add_div hpos,Nat.div_eq_of_lt hj,Nat.add_zero]
   have e2:(i*(T.get e).size+j)%(T.get e).size=j:=by rw[Nat.mul_comm,Nat.mul_add_mod,Nat.mod_eq_of_lt hj]
   rw[e1,e2,Nat.sub_zero,X15 hi]
   rfl
  refine⟨_,_,_,_,hK,hbl,hrun,?_⟩
  obtain⟨m2,k2⟩:=m1.alloc self (len,0) (.row e (T.get e).size es .no) cells e (hx1.none hs1) (fun r hr=>by simp[OB.refs] at hr) (fun hk2=>by
   refine⟨hpos,fun i hi=>hsz1 i hi,fun i hi j hj=>?_,.inr ⟨w.heap.size,(len,0),cells,fun i j=>cells.getD (i*(T.get e).size+j) undef,upd_same _ _ _,heap_alloc_new w _,by simp only;omega,?_,Nat.le_of_eq ((Nat.zero_add _).trans hcs.symm),fun i j hi hj=>?_,fun i hi j hj=>?_,fun o _ ho=>absurd (m1.bS _ _ ho) (Nat.lt_irrefl _),fun _ _ _ _ h=>nomatch h⟩⟩
   ·have hi':i<vs.toList.length:=by omega
    obtain⟨_,q⟩:=(hr1 i hi hi').cells
    obtain⟨u,q1,q2,q3⟩:=q j hj
    exact q2
   ·have:len<=len*(T.get e).size:=Nat.le_mul_of_pos_right _ hpos
    simp only[maxLen]
    omega
   ·have hlt:(i+1)*(T.get e).size<=len*(T.get e).size:=X31 _ (by omega)
    rw[X32] at hlt
    have:i*(T.get e).size+j<cells.size:=by omega
    simp[this]
   have hi':i<vs.toList.length:=by omega
   have hiv:i<vals.length:=by omega
   obtain⟨_,q⟩:=(hr1 i hi hi').cells
   obtain⟨u,q1,q2,q3⟩:=q j hj
   rw[hsz1 i hi] at hj
   have hcc:=hcell i j hiv hj
   have hvi:vals[i]=vs.toList[i].2:=by simp[vals]
   rw[hvi,q1] at hcc
   have:cells.getD (i*(T.get e).size+j) undef=u:=by simp[hcc]
   show RepD _ _ _ (cells.getD (i*(T.get e).size+j) undef)
   rw[this]
   exact q3.mono hk2.k)
  refine⟨S1,_,by rw[AT];exact m2,by rw[AT];exact k1.trans k2,?_,?_⟩
  ·refine .own self len _ len len (some ⟨w.heap.size,0,none⟩) rfl rfl (fun e2 sz2 es2 f2 hx2=>?_) (fun cs hx2=>?_)
   ·rw[AT] at hx2
    simp only[Au,upd_same,X24,OB.row.injEq] at hx2
    obtain⟨rfl,rfl,rfl,rfl⟩:=hx2
    exact⟨by omega,fun _=>.inr ⟨_,_,upd_same _ _ _,rfl⟩⟩
   rw[AT] at hx2
   simp[Au] at hx2
  intro r hr
  simp only[AV.refs,X14] at hr
  subst hr
  rw[AT]
  simp[Au]
 exact h.elim
theorem XL {T:TT}{e:Nat}(h:rowT T e=true):(T.get e).kind.cls=some true:=by
 unfold rowT at h
 split at h
 ·assumption
 simp at h
theorem P9 {obl:List (Option OB)}(hT:TabOk P T)(m:Mem E w S φ (fun r=>obl.getD r none)){t len self:Nat}{cs:List AV}{vs:Array (Nat×Value)}{K:AV->W->Prop}
  (hp:Jx S w φ (fun r=>obl.getD r none) [(0,.agg cs)] vs.toList) (h:Lm T t len self cs obl K) :
  ∃out wr u w',K out wr/\(∀r o,(r,o)∈wr->r<obl.length)/\(Instr.buildSlice t len vs).run P w=.ok u w'/\Post E w S φ (fun r=>obl.getD r none) out wr u w':=by
 unfold Lm at h
 split at h
 ·rename_i e hk
  rw[E6,AI] at h
  simp only[X27] at h
  obtain⟨hself,⟨⟨⟨⟨c1,c2⟩,c3⟩,c4⟩,c5⟩,hK⟩:=h
  have hlen:len=1:=X30 c1
  subst hlen
  have hcl:=XL c2
  have hsz:(T.get e).size=cs.length:=X30 c3
  have hpos:0<(T.get e).size:=X29 c4
  have hbig:(T.get e).size<=65536:=X29 c5
  obtain⟨hs1,hs2⟩:=C6 hself
  have hte:=hT.of (t:=e) (by rw[hcl];simp)
  obtain⟨ie,z,hie,hi1,hi2,hz,hz1,_⟩:=hte.info
  obtain⟨u,hvs,hu,hcu⟩ :∃u,vs=#[(0,u)]/\RepA S w φ (fun r=>obl.getD r none) (.agg cs) u/\Closed (fun r=>obl.getD r none) (.agg cs):=by
   generalize hvl:vs.toList=l at hp
   cases hp with
   | @cons _ q _ l' h1 h2=>
    cases h2 with
    | nil=>
     obtain⟨q1,q2⟩:=q
     refine⟨q2,?_,h1.2.1,h1.2.2⟩
     have:q1=0:=h1.1.symm
     subst this
     exact Array.toList_inj.1 hvl
  subst hvs
  cases hu with | agg _ us f hs hf hn hr=>
  obtain⟨r,g1,g2,g3⟩:=Great.fill_dense hpos [Value.agg us] 0 ((Array.range (1*(T.get e).size)).map (z.cells[· % z.cells.size]!)) (by intro v hv;rw[X14.1 hv];simp only[Value.cells];omega) (by simp)
  have hrun:(Instr.buildSlice t 1 #[(0,Value.agg us)]).run P w=.ok (.slice (some ⟨w.heap.size,0,none⟩) 1 1) (w.alloc (.cells r e)):=by
   have hfill:Instr.fill (fun i=>some (i*ie.size,ie.size)) ((Array.range (1*ie.size)).map (z.cells[· % z.cells.size]!)) #[(0,Value.agg us)].toList=some r:=by
    rw[hi1]
    exact g1
   exact run_buildSlice w t e 1 _ r ie z (BB hT hk) hie hz (by rw[hi1];omega) (by rw[hi1];omega) hfill
  have hrs:r.size=cs.length:=by rw[g2];simp;omega
  have hrc :∀j,j<cs.length->r[j]?=some (f j):=by
   intro j hj
   rw[g3,if_pos ⟨by omega,by simp;omega⟩]
   have e1:j/(T.get e).size=0:=Nat.div_eq_of_lt (by omega)
   have e2:j%(T.get e).size=j:=Nat.mod_eq_of_lt (by omega)
   rw[e1,e2]
   simpa[Value.cells] using hf j hj
  obtain⟨m2,k2⟩:=m.alloc self (1,0) (.box cs) r e hs1 (fun r' hr'=>hcu r' (by simpa[OB.refs,AV.refs] using hr')) (fun hk2=>by
   refine⟨w.heap.size,(1,0),r,e,f,upd_same _ _ _,heap_alloc_new w _,hrs,fun o ho=>absurd (m.bS _ _ ho) (Nat.lt_irrefl _),hrc,fun j hj=>⟨hn j hj,?_⟩⟩
   exact hk2.rep (fun r' hr'=>hcu r' (by simpa[AV.refs] using AV.refs_mem cs j hj r' hr')) (hr j hj))
  refine⟨_,_,_,_,hK,fun r' o hm=>?_,hrun,S,_,m2,k2,?_,?_⟩
  ·simp only[X14,X26] at hm
   rw[hm.1];exact hs2
  ·refine .own self 1 _ 1 1 (some ⟨w.heap.size,0,none⟩) rfl rfl (fun e2 sz2 es2 f2 hx2=>?_) (fun cs2 hx2=>⟨rfl,_,_,upd_same _ _ _,rfl⟩)
   simp[Au] at hx2
  intro r' hr'
  simp only[AV.refs,X14] at hr'
  subst hr'
  simp[Au]
 exact h.elim
theorem Oi {obl:List (Option OB)}(hT:TabOk P T)(m:Mem E w S φ (fun r=>obl.getD r none)){t len self:Nat}{cs:List AV}{vs:Array (Nat×Value)}{K:AV->W->Prop}
  (hp:Jx S w φ (fun r=>obl.getD r none) [(0,.agg cs)] vs.toList) (h:Jv T t len self cs obl K) :
  ∃out wr u w',K out wr/\(∀r o,(r,o)∈wr->r<obl.length)/\(Instr.buildSlice t len vs).run P w=.ok u w'/\Post E w S φ (fun r=>obl.getD r none) out wr u w':=by
 unfold Jv at h
 split at h
 ·rename_i e hk
  rw[E6,AI] at h
  simp only[X27] at h
  obtain⟨hself,⟨⟨⟨⟨c1,c2⟩,c3⟩,c4⟩,c5⟩,jq,q,n,hjq,h⟩:=h
  have hlen:len=1:=X30 c1
  subst hlen
  have hsz:(T.get e).size=cs.length:=(X30 c2).symm
  have hpos:0<(T.get e).size:=X29 c3
  have hbig:(T.get e).size<=65536:=X29 c4
  obtain⟨hs1,hs2⟩:=C6 hself
  have hte:=hT.of (t:=e) (A7 c5)
  obtain⟨ie,z,hie,hi1,hi2,hz,hz1,_⟩:=hte.info
  obtain⟨u,hvs,hu,hcu⟩ :∃u,vs=#[(0,u)]/\RepA S w φ (fun r=>obl.getD r none) (.agg cs) u/\Closed (fun r=>obl.getD r none) (.agg cs):=by
   generalize hvl:vs.toList=l at hp
   cases hp with
   | @cons _ q _ l' h1 h2=>
    cases h2 with
    | nil=>
     obtain⟨q1,q2⟩:=q
     refine⟨q2,?_,h1.2.1,h1.2.2⟩
     have:q1=0:=h1.1.symm
     subst this
     exact Array.toList_inj.1 hvl
  subst hvs
  obtain⟨d,wr,S1,hK,m1,k1,hd,hx1,hw1⟩:=Dw m (FrzExt.refl _) hu h
  rw[AI] at hK
  obtain⟨hne,hK⟩:=hK
  cases hu with | agg _ us f hs hf hn hr=>
  obtain⟨r,g1,g2,g3⟩:=Great.fill_dense hpos [Value.agg us] 0 ((Array.range (1*(T.get e).size)).map (z.cells[· % z.cells.size]!)) (by intro v hv;rw[X14.1 hv];simp only[Value.cells];omega) (by simp)
  have hrun:(Instr.buildSlice t 1 #[(0,Value.agg us)]).run P w=.ok (.slice (some ⟨w.heap.size,0,none⟩) 1 1) (w.alloc (.cells r e)):=by
   have hfill:Instr.fill (fun i=>some (i*ie.size,ie.size)) ((Array.range (1*ie.size)).map (z.cells[· % z.cells.size]!)) #[(0,Value.agg us)].toList=some r:=by
    rw[hi1]
    exact g1
   exact run_buildSlice w t e 1 _ r ie z (BB hT hk) hie hz (by rw[hi1];omega) (by rw[hi1];omega) hfill
  have hrs:r.size=cs.length:=by rw[g2];simp;omega
  have hrc :∀j,j<cs.length->r[j]?=some (f j):=by
   intro j hj
   rw[g3,if_pos ⟨by omega,by simp;omega⟩]
   have e1:j/(T.get e).size=0:=Nat.div_eq_of_lt (by omega)
   have e2:j%(T.get e).size=j:=Nat.mod_eq_of_lt (by omega)
   rw[e1,e2]
   simpa[Value.cells] using hf j hj
  obtain⟨dc1,dc2⟩:=hd.cells
  have dlen:d.cells.length=(T.get e).size:=by rw[<- dc1];simp only[Value.cells];omega
  have hcell :∀j (hj:j<d.cells.length),d.cells[j].isAgg=false/\RepD S1 w d.cells[j] (f j):=by
   intro j hj
   obtain⟨u,q1,q2,q3⟩:=dc2 j hj
   have:us[j]?=some (f j):=hf j (by omega)
   have q1:us[j]?=some u:=q1
   rw[this] at q1
   exact⟨q2,X25 q1 ▸ q3⟩
  have hjl:jq<cs.length:=(X16.1 hjq).1
  have hq0:Au (fun r=>obl.getD r none) wr q≠none:=k1.c q (hcu q (by
   have:=AV.refs_mem cs jq hjl q (by rw[(X16.1 hjq).2];simp[AV.refs])
   simpa[AV.refs] using this))
  have hqr:RepA S1 w φ (Au (fun r=>obl.getD r none) wr) (.own q n) (f jq):=by
   have:=hr jq hjl
   rw[(X16.1 hjq).2] at this
   exact k1.rep (fun r' hr'=>hcu r' (by
    have:=AV.refs_mem cs jq hjl r' (by rw[(X16.1 hjq).2];exact hr')
    simpa[AV.refs] using this)) this
  obtain⟨m2,k2⟩:=m1.alloc self (1,0) (.row e (T.get e).size [d] (.lk 0 jq q n)) r e (hx1.none hs1) (fun r' hr'=>by
   simp only[OB.refs,FZ.refs_lk,X14] at hr'
   rw[hr'];exact hq0) (fun hk2=>by
   refine⟨hpos,fun i hi=>?_,fun i hi j hj=>?_,.inr ⟨w.heap.size,(1,0),r,fun _ j=>f j,upd_same _ _ _,heap_alloc_new w _,Nat.le_refl _,by simp only[maxLen];omega,by simp only;omega,fun i j hi hj=>?_,fun i hi j hj=>?_,fun o _ ho=>absurd (m1.bS _ _ ho) (Nat.lt_irrefl _),fun i j q' n' hq hi hj=>?_⟩⟩
   ·have:i=0:=by simpa using hi
    subst this;exact dlen
   ·have:i=0:=by simpa using hi
    subst this;exact (hcell j hj).1
   ·have:i=0:=by simpa using hi
    subst this
    simpa using hrc j (by omega)
   ·have:i=0:=by simpa using hi
    subst this;exact (hcell j hj).2.mono hk2.k
   simp only[FZ.lk.injEq] at hq
   obtain⟨rfl,rfl,rfl,rfl⟩:=hq
   exact hk2.rep (fun q' hq'=>by simp only[AV.refs,X14] at hq';rw[hq'];exact hq0) hqr)
  refine⟨_,_,_,_,hK,fun r' o hm=>?_,hrun,S1,_,by rw[AT];exact m2,by rw[AT];exact k1.trans k2,?_,?_⟩
  ·rcases X23.1 hm with hm | hm
   ·obtain⟨e',sz',es',f',p1,_⟩:=hw1 r' o hm
    exact Bo obl r' _ p1
   simp only[X14,X26] at hm
   rw[hm.1];exact hs2
  ·refine .own self 1 _ 1 1 (some ⟨w.heap.size,0,none⟩) rfl rfl (fun e2 sz2 es2 f2 hx2=>?_) (fun cs hx2=>?_)
   ·rw[AT] at hx2
    simp only[Au,upd_same,X24,OB.row.injEq] at hx2
    obtain⟨rfl,rfl,rfl,rfl⟩:=hx2
    exact⟨Nat.le_refl _,fun _=>.inr ⟨_,_,upd_same _ _ _,rfl⟩⟩
   rw[AT] at hx2
   simp[Au] at hx2
  intro r hr
  simp only[AV.refs,X14] at hr
  subst hr
  rw[AT]
  simp[Au]
 exact h.elim
theorem NH {obl:List (Option OB)}(hT:TabOk P T)(m:Mem E w S φ (fun r=>obl.getD r none)){t len self:Nat}{ps:List (Nat×AV)}{vs:Array (Nat×Value)}{K:AV->W->Prop}
  (hp:Jx S w φ (fun r=>obl.getD r none) ps vs.toList) (h:If T t len self ps obl K) :
  ∃out wr u w',K out wr/\(∀r o,(r,o)∈wr->r<obl.length)/\(Instr.buildSlice t len vs).run P w=.ok u w'/\Post E w S φ (fun r=>obl.getD r none) out wr u w':=by
 unfold If at h
 split at h
 ·rcases h with h | h
  ·exact KE hT m hp h
  rcases h with h | h
  ·exact P9 hT m hp h
  exact Oi hT m hp h
 exact KE hT m hp h
end
end Go.AX
end
section
namespace Go.AX
def ofL (objs:List OB):Nat->Option OB:=fun r=>objs[r]?
def Iz (φ:Nat->Option (Nat×Rp))(n:Nat):Nat->Prop:=fun b=>∃r c,r<n/\φ r=some (b,c)
def A4 (wl:WL)(P:Program)(f:FuncId)(args:List AV)(objs:List OB)(res:AV)(objs':List OB):Prop:=
 (∃ fn, P.funcs[f]? = some fn ∧ fn.name ≠ "runtime.NumGoroutine" ∧ fn.body.isSome = true) ∧
 ∀(w:World) (S:Sc) (φ:Nat->Option (Nat×Rp)) (gb:Nat->Prop) (hg:GlobOK wl gb (Iz φ objs.length) S w) (vals:Array Value),vals.size=args.length->
  (∀i (hi:i<args.length),RepA S w φ (ofL objs) args[i] (vals.getD i undef)/\Closed (ofL objs) args[i])->(∀r,objs.length<=r->φ r=none)->
  Mem ⟨w,S,Iz φ objs.length,wl,gb,hg⟩ w S φ (ofL objs)->
  Calls P f vals w fun e w'=>∃v,e=.returned v/\∃S' φ',Mem ⟨w,S,Iz φ objs.length,wl,gb,hg⟩ w' S' φ' (ofL objs')/\Kept w S φ (ofL objs) w' S' φ' (ofL objs')/\RepA S' w' φ' (ofL objs') res v/\Closed (ofL objs') res
structure InlFn (wl:WL)(P:Program)(f:FuncId)(args:List AV)(ob:List (Option OB))(K:AV->List (Option OB)->Prop):Prop where
 fn : ∃ fn, P.funcs[f]? = some fn ∧ fn.name ≠ "runtime.NumGoroutine" ∧ fn.body.isSome = true
 run :∀(E:Env),E.wl=wl->∀(w:World) (S:Sc) (φ:Nat->Option (Nat×Rp)) (vals:Array Value),All2 (fun a v=>RepA S w φ (fun r=>ob.getD r none) a v/\Closed (fun r=>ob.getD r none) a) args vals.toList->
  Mem E w S φ (fun r=>ob.getD r none)->
  Calls P f vals w fun e w'=>∃v,e=.returned v/\∃S' φ' r ob',K r ob'/\Mem E w' S' φ' (fun r=>ob'.getD r none)/\Kept w S φ (fun r=>ob.getD r none) w' S' φ' (fun r=>ob'.getD r none)/\
   RepA S' w' φ' (fun r=>ob'.getD r none) r v/\Closed (fun r=>ob'.getD r none) r
def eP (wl:WL)(P:Program)(f:FuncId)(args:List AV)(ob:List (Option OB))(K:AV->List (Option OB)->Prop):Prop:=
 ∀(E:Env),E.wl=wl->∀(w:World) (S:Sc) (φ:Nat->Option (Nat×Rp)) (vals:Array Value),All2 (fun a v=>RepA S w φ (fun r=>ob.getD r none) a v/\Closed (fun r=>ob.getD r none) a) args vals.toList->
  Mem E w S φ (fun r=>ob.getD r none)->
  ∃v w',(callFunc f vals).run P w=.ok (.value v) w'/\∃S' φ' r ob',K r ob'/\Mem E w' S' φ' (fun r=>ob'.getD r none)/\Kept w S φ (fun r=>ob.getD r none) w' S' φ' (fun r=>ob'.getD r none)/\
   RepA S' w' φ' (fun r=>ob'.getD r none) r v/\Closed (fun r=>ob'.getD r none) r
def Uz (wl:WL)(P:Program)(f:FuncId)(args:List AV)(ob:List (Option OB))(K:AV->List (Option OB)->Prop):Prop:=InlFn wl P f args ob K\/eP wl P f args ob K
def QG (wl:WL)(P:Program)(cx:Cx):Prop:=cx.G=wl.G/\(∀f args objs res objs',cx.C f args objs res objs'->A4 wl P f args objs res objs')/\
 ∀f args ob K,cx.I f args ob K->Uz wl P f args ob K
def sel {α:Type}(ρ:List Nat)(g:Nat->Option α):Nat->Option α:=fun i=>(ρ[i]?).bind g
section
variable {P:Program} {T:TT} {E:Env} {w:World} {S S1:Sc} {φ:Nat->Option (Nat×Rp)} {ob:Nat->Option OB} {wr1:W}
theorem Zj (r:Nat) :∀(l:List Nat) (n:Nat) (F N:Nat->Prop),LN.go r l n F N->(∃k,l[k]?=some r/\F (n+k))\/(r∉l/\N (n+l.length))
 | [],n,F,N,h=>.inr ⟨by simp,h⟩
 | x::l,n,F,N,h=>by
  simp only[LN.go] at h
  cases hb:Nat.beq x r with
  | true=>
   simp only[hb] at h
   have:=X30 hb
   exact .inl ⟨0,by simp[this],h⟩
  | false=>
   simp only[hb] at h
   have hne:x≠r:=fun e=>by subst e;rw[show Nat.beq x x=true from Nat.beq_refl x] at hb;simp at hb
   rcases Zj r l (n+1) F N h with ⟨k,h1,h2⟩|⟨h1,h2⟩
   ·exact .inl ⟨k+1,by simpa using h1,by rw[show n+(k+1)=n+1+k by omega];exact h2⟩
   exact .inr ⟨by simp[h1,Ne.symm hne],by rw[show n+(x::l).length=n+1+l.length by simp;omega];exact h2⟩
def Ext (ρ ρ':List Nat):Prop:=∃l,ρ'=ρ++l
theorem Ext.refl (ρ:List Nat):Ext ρ ρ:=⟨[],by simp⟩
theorem Ext.trans {a b c:List Nat}(h:Ext a b)(k:Ext b c):Ext a c:=by
 obtain⟨l,rfl⟩:=h;obtain⟨l',rfl⟩:=k;exact⟨l++l',by simp⟩
theorem Ext.get {ρ ρ':List Nat}(h:Ext ρ ρ'){i:Nat}(hi:i<ρ.length):ρ'[i]?=ρ[i]?:=by
 obtain⟨l,rfl⟩:=h
 exact List.getElem?_append_left hi
theorem IH {r:Nat}{ρ:List Nat}{K:Nat->List Nat->Prop}(hn:ρ.Nodup)(h:LN.refK r ρ K) :∃i ρ',K i ρ'/\ρ'[i]?=some r/\Ext ρ ρ'/\ρ'.Nodup/\∀x∈ρ',x∈ρ\/x=r:=by
 rcases Zj r ρ 0 _ _ h with ⟨k,h1,h2⟩|⟨h1,h2⟩
 ·rw[Nat.zero_add] at h2
  exact⟨k,ρ,h2,h1,.refl ρ,hn,fun x hx=>.inl hx⟩
 rw[Nat.zero_add] at h2
 refine⟨_,_,h2,by simp,⟨[r],rfl⟩,?_,fun x hx=>?_⟩
 ·rw[List.nodup_append]
  exact⟨hn,by simp,fun a ha b hb=>by simp at hb;subst hb;exact fun e=>h1 (e ▸ ha)⟩
 simpa using hx
def SeenAs (S:Sc)(w:World)(φ:Nat->Option (Nat×Rp))(ob:Nat->Option OB)(ρ:List Nat)(a:AV)(v:Value):Prop:=
 RepA S w (sel ρ φ) (sel ρ ob) a v/\∀r∈a.refs,r<ρ.length
theorem SeenAs.ext {ρ ρ':List Nat}{a:AV}{v:Value}(h:SeenAs S w φ ob ρ a v)(hx:Ext ρ ρ'):SeenAs S w φ ob ρ' a v:=by
 obtain⟨h1,h2⟩:=h
 refine⟨h1.mono (fun _ _ h=>⟨h,rfl⟩) fun r hr=>.inl ?_,fun r hr=>?_⟩
 ·have:=hx.get (h2 r hr)
  simp[sel,this]
 have:=h2 r hr
 obtain⟨l,rfl⟩:=hx
 simp;omega
theorem SeenAs.kept {w':World}{S':Sc}{ob':Nat->Option OB}{ρ:List Nat}{a:AV}{v:Value}(h:SeenAs S w φ ob ρ a v)(k:Kept w S φ ob w' S' φ ob')(hc :∀r∈ρ,ob r≠none):SeenAs S' w' φ ob' ρ a v:=by
 obtain⟨h1,h2⟩:=h
 refine⟨h1.mono k.k fun r hr=>?_,h2⟩
 have hlt:=h2 r hr
 have hg:ρ[r]?=some ρ[r]:=X15 hlt
 have:=k.r ρ[r] (hc _ (List.getElem_mem hlt))
 simpa[RefOK,sel,hg] using this
theorem ZP {ρ:List Nat}{r i n:Nat}{v:Value}(h:RepA S w φ ob (.own r n) v)(hi:ρ[i]?=some r):SeenAs S w φ ob ρ (.own i n) v:=by
 have hlt:=(X16.1 hi).1
 refine⟨?_,fun r' hr'=>by simp only[AV.refs,X14] at hr';omega⟩
 cases h with | own _ _ _ k c a0 hv hk h1 hb=>
 refine .own i n v k c a0 hv hk (fun e sz es frz hx=>?_) fun cs hx=>?_
 ·simp only[sel,hi,Option.bind_some] at hx
  obtain⟨g1,g2⟩:=h1 e sz es frz hx
  refine⟨g1,fun hn=>?_⟩
  have:=g2 hn
  unfold Ib at *
  simpa[sel,hi] using this
 simp only[sel,hi,Option.bind_some] at hx
 obtain⟨g1,b,c',g2,g3⟩:=hb cs hx
 exact⟨g1,b,c',by simpa[sel,hi] using g2,g3⟩
theorem VZ {ρ:List Nat}{r i off:Nat}{v:Value}(h:RepA S w φ ob (.ref r off) v)(hi:ρ[i]?=some r):SeenAs S w φ ob ρ (.ref i off) v:=by
 have hlt:=(X16.1 hi).1
 refine⟨?_,fun r' hr'=>by simp only[AV.refs,X14] at hr';omega⟩
 cases h with | ref _ _ b c hφ hb=>
 exact .ref i off b c (by simpa[sel,hi] using hφ) fun e sz es frz hx=>hb e sz es frz (by simpa[sel,hi] using hx)
theorem aF {ρ:List Nat}{r i:Nat}{v:Value}(h:RepA S w φ ob (.mp r) v)(hi:ρ[i]?=some r):SeenAs S w φ ob ρ (.mp i) v:=by
 have hlt:=(X16.1 hi).1
 refine⟨?_,fun r' hr'=>by simp only[AV.refs,X14] at hr';omega⟩
 cases h with | mp _ b c hφ hb hc=>
 exact .mp i b c (by simpa[sel,hi] using hφ) (fun e sz es frz hx=>hb e sz es frz (by simpa[sel,hi] using hx)) fun cs hx=>hc cs (by simpa[sel,hi] using hx)
theorem ac {ρ:List Nat}{f r i:Nat}{v:Value}(h:RepA S w φ ob (.it f r) v)(hi:ρ[i]?=some r):SeenAs S w φ ob ρ (.it f i) v:=by
 have hlt:=(X16.1 hi).1
 refine⟨?_,fun r' hr'=>by simp only[AV.refs,X14] at hr';omega⟩
 cases h with | it _ _ b c B hφ hb hc hS hm=>
 exact .it f i b c B (by simpa[sel,hi] using hφ) (fun e sz es frz hx=>hb e sz es frz (by simpa[sel,hi] using hx)) (fun cs hx=>hc cs (by simpa[sel,hi] using hx)) hS hm
theorem W1 {obl:List (Option OB)}{keep:Bool}(m:Mem E w S φ ob)(hx:FrzExt (fun r=>obl.getD r none) ob){a:AV}{v:Value}{ρ:List Nat}(hn:ρ.Nodup){K:AV->List Nat->W->Prop}(ha:RepA S w φ ob a v)
  (hcl:Closed (fun r=>obl.getD r none) a) (h:LN keep obl a ρ K) :
  ∃a' ρ' wr S',K a' ρ' wr/\Mem E w S' φ (Au ob wr)/\Kept w S φ ob w S' φ (Au ob wr)/\FrzExt (fun r=>obl.getD r none) (Au ob wr)/\UR obl wr/\Ext ρ ρ'/\ρ'.Nodup/\
   (∀x∈ρ',x∈ρ\/obl.getD x none≠none)/\SeenAs S' w φ (Au ob wr) ρ' a' v:=by
 have data :∀{K:D->W->Prop},toD obl a K->∃x wr S',K x wr/\Mem E w S' φ (Au ob wr)/\Kept w S φ ob w S' φ (Au ob wr)/\FrzExt (fun r=>obl.getD r none) (Au ob wr)/\UR obl wr/\SeenAs S' w φ (Au ob wr) ρ (.d x) v:=by
  intro K h
  obtain⟨x,wr,S',h1,h2,h3,h4,h5,h6⟩:=Dw m hx ha h
  exact⟨x,wr,S',h1,h2,h3,h5,h6,.d _ _ h4,fun r hr=>by simp[AV.refs] at hr⟩
 cases a<;>simp only[LN] at h
 case d x=>
  split at h
  ·cases ha with | d _ _ ha=>
   exact⟨_,ρ,[],S,h,m,.refl w S φ ob,hx,fun _ _ hm=>by simp at hm,.refl ρ,hn,fun x hx=>.inl hx,.d _ _ ha,fun r hr=>by simp[AV.refs] at hr⟩
  rw[Fj] at h
  cases ha with | d _ _ ha=>
  exact⟨_,ρ,[],S,h,m,.refl w S φ ob,hx,fun _ _ hm=>by simp at hm,.refl ρ,hn,fun x hx=>.inl hx,.d _ _ ha.norm,fun r hr=>by simp[AV.refs] at hr⟩
 case agg cs=>
  obtain⟨x,wr,S',h1,h2,h3,h4,h5,h6⟩:=data h
  exact⟨_,ρ,wr,S',h1,h2,h3,h4,h5,.refl ρ,hn,fun x hx=>.inl hx,h6⟩
 case ref r off=>
  obtain⟨i,ρ',h1,h2,h3,h4,h5⟩:=IH hn h
  refine⟨_,ρ',[],S,h1,m,.refl w S φ ob,hx,fun _ _ hm=>by simp at hm,h3,h4,fun x hx'=>?_,VZ ha h2⟩
  rcases h5 x hx' with h | h
  ·exact .inl h
  exact .inr (hcl x (by simp[AV.refs,h]))
 case mp r=>
  obtain⟨i,ρ',h1,h2,h3,h4,h5⟩:=IH hn h
  refine⟨_,ρ',[],S,h1,m,.refl w S φ ob,hx,fun _ _ hm=>by simp at hm,h3,h4,fun x hx'=>?_,aF ha h2⟩
  rcases h5 x hx' with h | h
  ·exact .inl h
  exact .inr (hcl x (by simp[AV.refs,h]))
 case it f r=>
  obtain⟨i,ρ',h1,h2,h3,h4,h5⟩:=IH hn h
  refine⟨_,ρ',[],S,h1,m,.refl w S φ ob,hx,fun _ _ hm=>by simp at hm,h3,h4,fun x hx'=>?_,ac ha h2⟩
  rcases h5 x hx' with h | h
  ·exact .inl h
  exact .inr (hcl x (by simp[AV.refs,h]))
 case own r n=>
  cases keep with
  | true=>
   obtain⟨i,ρ',h1,h2,h3,h4,h5⟩:=IH hn h
   refine⟨_,ρ',[],S,h1,m,.refl w S φ ob,hx,fun _ _ hm=>by simp at hm,h3,h4,fun x hx'=>?_,ZP ha h2⟩
   rcases h5 x hx' with h | h
   ·exact .inl h
   exact .inr (hcl x (by simp[AV.refs,h]))
  | false=>
   obtain⟨x,wr,S',h1,h2,h3,h4,h5,h6⟩:=data h
   exact⟨_,ρ,wr,S',h1,h2,h3,h4,h5,.refl ρ,hn,fun x hx=>.inl hx,h6⟩
 case eref cs=>
  refine⟨_,ρ,[],S,h,m,.refl w S φ ob,hx,fun _ _ hm=>by simp at hm,.refl ρ,hn,fun x hx=>.inl hx,?_,fun r hr=>by simp[AV.refs] at hr⟩
  exact ha.mono (fun _ _ h=>⟨h,rfl⟩) fun r hr=>by simp[AV.refs] at hr
 case fn f caps=>
  cases ha with | fn _ _ vs g hs hf hr=>
  have key :∀(caps:List AV) (off:Nat) (ρ:List Nat) (K:List AV->List Nat->Prop) (_:ρ.Nodup) (_ :∀i (hi:i<caps.length),RepA S w φ ob caps[i] (g (off+i))) (_ :∀r∈AV.refs.refsL caps,obl.getD r none≠none)
    (_:LN.capsK caps ρ K),∃caps' ρ',K caps' ρ'/\caps'.length=caps.length/\Ext ρ ρ'/\ρ'.Nodup/\(∀x∈ρ',x∈ρ\/obl.getD x none≠none)/\∀i (hi:i<caps'.length),SeenAs S w φ ob ρ' caps'[i] (g (off+i)):=by
   intro caps
   induction caps with
   | nil=>intro off ρ K hn _ _ h;exact⟨[],ρ,h,rfl,.refl ρ,hn,fun x hx=>.inl hx,fun i hi=>by simp at hi⟩
   | cons c caps ih=>
    intro off ρ K hn hr hc h
    cases c<;>simp only[LN.capsK] at h
    case ref r o=>
     obtain⟨i,ρ1,h1,h2,h3,h4,h5⟩:=IH hn h
     obtain⟨caps',ρ2,g1,g2,g3,g4,g5,g6⟩:=ih (off+1) ρ1 _ h4 (fun i hi=>by
      have:=hr (i+1) (by simpa using hi)
      simpa[Nat.add_assoc,Nat.add_comm 1 i] using this) (fun r hr=>hc r (by simp[AV.refs.refsL,hr])) h1
     refine⟨_,ρ2,g1,by simp[g2],h3.trans g3,g4,fun x hx=>?_,fun j hj=>?_⟩
     ·rcases g5 x hx with h | h
      ·rcases h5 x h with h | h
       ·exact .inl h
       exact .inr (hc x (by simp[AV.refs.refsL,AV.refs,h]))
      exact .inr h
     cases j with
     | zero=>
      have:=hr 0 (by simp)
      simp only[List.getElem_cons_zero] at this
      exact (VZ this h2).ext g3
     | succ j=>
      have:=g6 j (by simpa using hj)
      simpa[Nat.add_assoc,Nat.add_comm 1 j] using this
  obtain⟨caps',ρ',g1,g2,g3,g4,g5,g6⟩:=key caps 0 ρ _ hn (fun i hi=>by simpa using hr i hi) (fun r hr=>hcl r (by simpa[AV.refs] using hr)) h
  refine⟨_,ρ',[],S,g1,m,.refl w S φ ob,hx,fun _ _ hm=>by simp at hm,g3,g4,g5,.fn f caps' vs g (by omega) (fun i hi=>hf i (by omega)) (fun i hi=>by have:=(g6 i hi).1;rw[Nat.zero_add] at this;exact this),fun r hr=>?_⟩
  obtain⟨c,hc1,hc2⟩:=AV.refs_mem' caps' r (by simpa[AV.refs] using hr)
  obtain⟨j,hj,rfl⟩:=List.getElem_of_mem hc1
  exact (g6 j hj).2 r hc2
theorem LR {obl:List (Option OB)}{keep:List Bool} :∀{asz:List AV} {vs:List Value} {S:Sc} {ob:Nat->Option OB} {ρ:List Nat} {K:List AV->List Nat->W->Prop} (_:Mem E w S φ ob) (_:FrzExt (fun r=>obl.getD r none) ob) (_:ρ.Nodup)
  (_:All2 (fun a v=>RepA S w φ ob a v/\Closed (fun r=>obl.getD r none) a) asz vs) (_:RY keep obl asz ρ K),
  ∃asz' ρ' wr S',K asz' ρ' wr/\Mem E w S' φ (Au ob wr)/\Kept w S φ ob w S' φ (Au ob wr)/\FrzExt (fun r=>obl.getD r none) (Au ob wr)/\UR obl wr/\Ext ρ ρ'/\ρ'.Nodup/\
   (∀x∈ρ',x∈ρ\/obl.getD x none≠none)/\All2 (fun a v=>SeenAs S' w φ (Au ob wr) ρ' a v) asz' vs
 | [],[],S,ob,ρ,K,m,hx,hn,_,h=>⟨[],ρ,[],S,h,m,.refl w S φ ob,hx,fun _ _ hm=>by simp at hm,.refl ρ,hn,fun x hx=>.inl hx,.nil⟩
 | a::asz,v::vs,S,ob,ρ,K,m,hx,hn,hv,h=>by
  cases hv with | cons h1 h2=>
  simp only[RY] at h
  obtain⟨a',ρ1,wr,S1,hK,m1,k1,hx1,hw1,e1,n1,r1,s1⟩:=W1 m hx hn h1.1 h1.2 h
  have hcl :∀{r:Nat},obl.getD r none≠none->ob r≠none:=by
   intro r hr
   rcases hx r with e1 | ⟨e,sz,es,f,e1,e2⟩
   ·rw[e1];exact hr
   rw[e2];simp
  obtain⟨asz',ρ2,wr2,S2,g1,g2,g3,g4,g5,g6,g7,g8,g9⟩:=LR m1 hx1 n1 (h2.imp fun a v hav=>⟨k1.rep (fun r hr=>hcl (hav.2 r hr)) hav.1,hav.2⟩) hK
  refine⟨a'::asz',ρ2,wr++wr2,S2,g1,by rw[AT];exact g2,by rw[AT];exact k1.trans g3,by rw[AT];exact g4,fun r o hm=>?_,e1.trans g6,g7,fun x hx'=>?_,?_⟩
  ·rcases X23.1 hm with hm | hm
   ·exact hw1 r o hm
   exact g5 r o hm
  ·rcases g8 x hx' with h | h
   ·exact r1 x h
   exact .inr h
  rw[AT]
  refine .cons ?_ g9
  obtain⟨s2,s3⟩:=s1.ext g6
  refine⟨s2.mono g3.k fun r hr=>?_,s3⟩
  have hlt:=s1.2 r hr
  have hlt2:=s3 r hr
  have hg1:ρ1[r]?=some ρ1[r]:=X15 hlt
  have hg2:ρ2[r]?=some ρ1[r]:=(g6.get hlt).trans hg1
  by_cases hno:Au ob wr ρ1[r]=none
  ·have hno2:obl.getD ρ1[r] none=none:=by
    rcases hx1 ρ1[r] with e | ⟨e,sz,es,f,_,e2⟩
    ·exact e.symm.trans hno
    rw[hno] at e2;simp at e2
   have:Au (Au ob wr) wr2 ρ1[r]=none:=g4.none hno2
   refine .inl ⟨by simp[sel,hg2],?_,?_⟩<;>simp[sel,hg2,this,hno]
  have:=g3.r ρ1[r] hno
  simpa[RefOK,sel,hg2] using this
 | [],_::_,_,_,_,_,_,_,_,hv,_=>by cases hv
 | _::_,[],_,_,_,_,_,_,_,hv,_=>by cases hv
theorem Jo (cs:List AV)(K:List AV->Prop):Hq.cellsD cs K↔(BW (.box cs)=true/\K cs):=by
 induction cs generalizing K with
 | nil=>simp[Hq.cellsD,BW]
 | cons c cs ih=>
  cases c<;>simp only[Hq.cellsD,BW,List.all_cons]<;>simp
  simpa[BW] using ih _
theorem He {obl:List (Option OB)} :∀{ρ:List Nat} {K:List OB->Prop},Hq obl ρ K->∃objs,K objs/\objs.length=ρ.length/\∀i (hi:i<objs.length) (hi':i<ρ.length),obl.getD ρ[i] none=some objs[i]/\BW objs[i]=true
 | [],K,h=>⟨[],h,rfl,fun i hi=>by simp at hi⟩
 | r::ρ,K,h=>by
  simp only[Hq,A1] at h
  obtain⟨o,ho,h⟩:=h
  cases o with
  | box cs=>
   simp only[Jo] at h
   obtain⟨hc,h⟩:=h
   obtain⟨objs,g1,g2,g3⟩:=He h
   refine⟨.box cs::objs,g1,by simp[g2],fun i hi hi'=>?_⟩
   cases i with
   | zero=>exact⟨ho,hc⟩
   | succ i=>exact g3 i (by simpa using hi) (by simpa using hi')
  | row e sz es f=>
   simp only[AI] at h
   obtain⟨hl,h⟩:=h
   obtain⟨objs,g1,g2,g3⟩:=He h
   refine⟨.row e sz es f::objs,g1,by simp[g2],fun i hi hi'=>?_⟩
   cases i with
   | zero=>exact⟨ho,hl⟩
   | succ i=>exact g3 i (by simpa using hi) (by simpa using hi')
  | amap=>exact h.elim
  | gone=>exact h.elim
  | map k e es=>
   simp only at h
   obtain⟨objs,g1,g2,g3⟩:=He h
   refine⟨.map k e es::objs,g1,by simp[g2],fun i hi hi'=>?_⟩
   cases i with
   | zero=>exact⟨ho,rfl⟩
   | succ i=>exact g3 i (by simpa using hi) (by simpa using hi')
theorem PS {self:Nat} :∀{ρ:List Nat} {objs:List OB} {K:W->Prop},KG ρ self objs K->
  ∃wr,K wr/\(∀o∈objs,BW o=true)/\(objs.length=ρ.length\/objs.length=ρ.length+1)/\wr=(ρ++[self]).zip objs
 | [],[],K,h=>⟨[],h,by simp,.inl rfl,rfl⟩
 | [],[o],K,h=>by
  simp only[KG] at h
  split at h
  ·rename_i hc;exact⟨_,h,by simpa using hc,.inr rfl,rfl⟩
  exact h.elim
 | r::ρ,o::os,K,h=>by
  simp only[KG] at h
  split at h
  ·rename_i hc
   obtain⟨wr,g1,g2,g3,g4⟩:=PS h
   refine⟨_,g1,fun x hx=>?_,by simpa using g3,by simp[g4]⟩
   rcases List.mem_cons.1 hx with e | e
   ·rw[e];exact hc
   exact g2 x e
  exact h.elim
 | [],_::_::_,K,h=>by simp[KG] at h
 | _::_,[],K,h=>by simp[KG] at h
theorem ObjOK.rename {φ':Nat->Option (Nat×Rp)}{ob':Nat->Option OB}{r r':Nat}{o:OB}(h:ObjOK S w φ ob r o)(hc:BW o=true)(hφ:φ' r'=φ r):ObjOK S w φ' ob' r' o:=by
 cases o with
 | box cs=>
  obtain⟨b,c,vs,e,f,h1,h2,h3,h4,h5,h6⟩:=h
  refine⟨b,c,vs,e,f,hφ.trans h1,h2,h3,h4,h5,fun j hj=>⟨(h6 j hj).1,?_⟩⟩
  have h7:=(h6 j hj).2
  have :∃x,cs[j]=.d x:=by
   simp only[BW,List.all_eq_true] at hc
   have:=hc cs[j] (List.getElem_mem hj)
   revert this
   cases cs[j]<;>simp
  obtain⟨x,hx⟩:=this
  rw[hx] at h7 ⊢
  cases h7 with | d _ _ h=>exact .d _ _ h
 | row e sz es frz=>
  obtain⟨h0,h1,h2,h3⟩:=h
  exact⟨h0,h1,h2,h3.imp (fun g=>⟨hφ.trans g.1,g.2⟩) fun ⟨b,cap,vs,f,g1,q2,q3,q4,q5,q6,q7,q8⟩=>⟨b,cap,vs,f,hφ.trans g1,q2,q3,q4,q5,q6,q7,q8.1,fun i j q n hf _ _=>(FZ.notlk (by simpa[BW] using hc) hf).elim⟩⟩
 | gone=>trivial
 | map k e es=>
  obtain⟨b,c,arr,clock,h1,h2⟩:=h
  exact⟨b,c,arr,clock,hφ.trans h1,h2⟩
 | amap=>simp[BW] at hc
theorem Jy {o:OB}(h:BW o=true):o.refs=[]:=by
 cases o with
 | box cs=>
  simp only[OB.refs]
  simp only[BW,List.all_eq_true] at h
  induction cs with
  | nil=>rfl
  | cons c cs ih=>
   simp only[AV.refs.refsL]
   rw[ih fun x hx=>h x (by simp[hx])]
   have:=h c (by simp)
   revert this
   cases c<;>simp[AV.refs]
 | row e sz es f=>
  cases f with
  | lk=>simp[BW] at h
  | _=>rfl
 | amap=>simp[BW] at h
 | map=>rfl
 | gone=>rfl
theorem Wi {ρ:List Nat}{self:Nat}{φ':Nat->Option (Nat×Rp)}{ob':Nat->Option OB}{a:AV}{v:Value}{K:AV->Prop}(ha:RepA S w φ ob a v)(hcl:Closed ob a)
  (hr :∀i,ob i≠none->φ' (ρ.getD i self)=φ i/\ob' (ρ.getD i self)=ob i) (h:ND ρ self a K) :∃a',K a'/\RepA S w φ' ob' a' v/\Closed ob' a':=by
 have own :∀{i n:Nat} {v:Value},RepA S w φ ob (.own i n) v->ob i≠none->RepA S w φ' ob' (.own (ρ.getD i self) n) v:=by
  intro i n v h hne
  obtain⟨e1,e2⟩:=hr i hne
  cases h with | own _ _ _ k c a0 hv hk h1 hb=>
  refine .own _ n v k c a0 hv hk (fun e sz es frz hx=>?_) (fun cs hx=>by
   obtain⟨g1,b,c',g2,g3⟩:=hb cs (e2 ▸ hx)
   exact⟨g1,b,c',e1.trans g2,g3⟩)
  rw[e2] at hx
  obtain⟨g1,g2⟩:=h1 e sz es frz hx
  refine⟨g1,fun hn=>?_⟩
  have:=g2 hn
  unfold Ib at *
  rwa [e1]
 have ref :∀{i off:Nat} {v:Value},RepA S w φ ob (.ref i off) v->ob i≠none->RepA S w φ' ob' (.ref (ρ.getD i self) off) v:=by
  intro i off v h hne
  obtain⟨e1,e2⟩:=hr i hne
  cases h with | ref _ _ b c hφ hb=>exact .ref _ off b c (e1.trans hφ) fun e sz es frz hx=>hb e sz es frz (e2 ▸ hx)
 have cl :∀{i:Nat},ob i≠none->ob' (ρ.getD i self)≠none:=fun {i} hne=>by rw[(hr i hne).2];exact hne
 have mp :∀{i:Nat} {v:Value},RepA S w φ ob (.mp i) v->ob i≠none->RepA S w φ' ob' (.mp (ρ.getD i self)) v:=by
  intro i v h hne
  obtain⟨e1,e2⟩:=hr i hne
  cases h with | mp _ b c hφ hb hc=>exact .mp _ b c (e1.trans hφ) (fun e sz es frz hx=>hb e sz es frz (e2 ▸ hx)) fun cs hx=>hc cs (e2 ▸ hx)
 have key :∀(f:Nat->Value) (cs:List AV) (off:Nat) (K:List AV->Prop) (_ :∀i (hi:i<cs.length),RepA S w φ ob cs[i] (f (off+i))) (_ :∀c∈cs,Closed ob c) (_:ND.renTup ρ self cs K),
   ∃cs',K cs'/\cs'.length=cs.length/\cs'.map AV.one=cs.map AV.one/\∀i (hi:i<cs'.length),RepA S w φ' ob' cs'[i] (f (off+i))/\Closed ob' cs'[i]:=by
  intro f cs
  induction cs with
  | nil=>intro off K _ _ h;exact⟨[],h,rfl,rfl,fun i hi=>by simp at hi⟩
  | cons c cs ih=>
   intro off K hr' hc h
   have h0:=hr' 0 (by simp)
   simp only[List.getElem_cons_zero,Nat.add_zero] at h0
   have hc0:=hc c (by simp)
   have go :∀(c':AV),c'.one=c.one->RepA S w φ' ob' c' (f off)->Closed ob' c'->ND.renTup ρ self cs (fun l=>K (c'::l))->∃cs',K cs'/\cs'.length=(c::cs).length/\cs'.map AV.one=(c::cs).map AV.one/\∀i (hi:i<cs'.length),RepA S w φ' ob' cs'[i] (f (off+i))/\Closed ob' cs'[i]:=by
    intro c' q0 q1 q2 h
    obtain⟨cs',g1,g2,gm,g3⟩:=ih (off+1) _ (fun i hi=>by
     have:=hr' (i+1) (by simpa using hi)
     simpa[Nat.add_assoc,Nat.add_comm 1 i] using this) (fun x hx=>hc x (by simp[hx])) h
    refine⟨c'::cs',g1,by simp[g2],by simp only[List.map_cons,q0,gm],fun i hi=>?_⟩
    cases i with
    | zero=>exact⟨q1,q2⟩
    | succ i=>
     have:=g3 i (by simpa using hi)
     simpa[Nat.add_assoc,Nat.add_comm 1 i] using this
   cases c<;>simp only[ND.renTup] at h
   case d x=>cases h0 with | d _ _ h0=>exact go _ rfl (.d _ _ h0) (BJ _ _) h
   case ref i o=>
    have hne:=hc0 i (by simp[AV.refs])
    exact go (.ref (ρ.getD i self) o) rfl (ref h0 hne) (fun r hr'=>by simp only[AV.refs,X14] at hr';rw[hr'];exact cl hne) h
   case own i o=>
    have hne:=hc0 i (by simp[AV.refs])
    exact go (.own (ρ.getD i self) o) rfl (own h0 hne) (fun r hr'=>by simp only[AV.refs,X14] at hr';rw[hr'];exact cl hne) h
 cases a<;>simp only[ND] at h
 case d x=>cases ha with | d _ _ ha=>exact⟨_,h,.d _ _ ha,BJ _ _⟩
 case ref i off=>
  have hne:=hcl i (by simp[AV.refs])
  exact⟨_,h,ref ha hne,fun r hr'=>by simp only[AV.refs,X14] at hr';rw[hr'];exact cl hne⟩
 case own i n=>
  have hne:=hcl i (by simp[AV.refs])
  exact⟨_,h,own ha hne,fun r hr'=>by simp only[AV.refs,X14] at hr';rw[hr'];exact cl hne⟩
 case mp i=>
  have hne:=hcl i (by simp[AV.refs])
  exact⟨_,h,mp ha hne,fun r hr'=>by simp only[AV.refs,X14] at hr';rw[hr'];exact cl hne⟩
 case it f i=>
  have hne:=hcl i (by simp[AV.refs])
  obtain⟨e1,e2⟩:=hr i hne
  cases ha with | it _ _ b c B hφ hb hc hS hm=>
  exact⟨_,h,.it f _ b c B (e1.trans hφ) (fun e sz es frz hx=>hb e sz es frz (e2 ▸ hx)) (fun cs hx=>hc cs (e2 ▸ hx)) hS hm,fun r hr'=>by simp only[AV.refs,X14] at hr';rw[hr'];exact cl hne⟩
 case agg cs=>
  cases ha with | agg _ vs f hs hf hone hrr=>
  obtain⟨cs',g1,g2,gm,g3⟩:=key f cs 0 _ (fun i hi=>by simpa using hrr i hi) (fun c hm r hr'=>by
   obtain⟨j,hj,rfl⟩:=List.getElem_of_mem hm
   exact hcl r (by simpa[AV.refs] using AV.refs_mem cs j hj r hr')) h
  refine⟨_,g1,.agg cs' vs f (by omega) (fun i hi=>hf i (by omega)) (fun i hi=>by
   have e:(cs'.map AV.one)[i]'(by simpa using hi)=(cs.map AV.one)[i]'(by simp;omega):=by simp only[gm]
   simp only[List.getElem_map] at e
   rw[e];exact hone i (by omega)) (fun i hi=>by have:=(g3 i hi).1;rw[Nat.zero_add] at this;exact this),fun r hr'=>?_⟩
  obtain⟨c,h1,h2⟩:=AV.refs_mem' cs' r (by simpa[AV.refs] using hr')
  obtain⟨j,hj,rfl⟩:=List.getElem_of_mem h1
  exact (g3 j hj).2 r h2
 case tup cs=>
  cases ha with | tup _ vs f hs hf hrr=>
  obtain⟨cs',g1,g2,gm,g3⟩:=key f cs 0 _ (fun i hi=>by simpa using hrr i hi) (fun c hm r hr'=>by
   obtain⟨j,hj,rfl⟩:=List.getElem_of_mem hm
   exact hcl r (by simpa[AV.refs] using AV.refs_mem cs j hj r hr')) h
  refine⟨_,g1,.tup cs' vs f (by omega) (fun i hi=>hf i (by omega)) (fun i hi=>by have:=(g3 i hi).1;rw[Nat.zero_add] at this;exact this),fun r hr'=>?_⟩
  obtain⟨c,h1,h2⟩:=AV.refs_mem' cs' r (by simpa[AV.refs] using hr')
  obtain⟨j,hj,rfl⟩:=List.getElem_of_mem h1
  exact (g3 j hj).2 r h2
def Yi (ρ:List Nat)(self:Nat):AV->Option AV
 | .d x=>some (.d x)
 | .ref i off=>some (.ref (ρ.getD i self) off)
 | .own i n=>some (.own (ρ.getD i self) n)
 | .mp i=>some (.mp (ρ.getD i self))
 | .it f i=>some (.it f (ρ.getD i self))
 | .tup vs=>(renT vs).map .tup
 | .agg vs=>(renT vs).map .agg
 | _=>none where
 renT:List AV->Option (List AV)
  | []=>some []
  | .d x::l=>(renT l).map (.d x::·)
  | .ref i off::l=>(renT l).map (.ref (ρ.getD i self) off::·)
  | .own i n::l=>(renT l).map (.own (ρ.getD i self) n::·)
  | _::_=>none
theorem Nz (ρ:List Nat)(self:Nat)(a:AV)(K:AV->Prop):ND ρ self a K ↔∃a',Yi ρ self a=some a'/\K a':=by
 have tup :∀(l:List AV) (K:List AV->Prop),ND.renTup ρ self l K ↔∃l',Yi.renT ρ self l=some l'/\K l':=by
  intro l
  induction l with
  | nil=>intro K;simp[ND.renTup,Yi.renT]
  | cons c l ih=>
   intro K
   cases c<;>simp only[ND.renTup,Yi.renT,ih,Option.map_eq_some_iff]
   case d=>exact⟨fun ⟨l',h1,h2⟩=>⟨_,⟨l',h1,rfl⟩,h2⟩,fun ⟨_,⟨l',h1,h3⟩,h2⟩=>⟨l',h1,h3 ▸ h2⟩⟩
   case ref=>exact⟨fun ⟨l',h1,h2⟩=>⟨_,⟨l',h1,rfl⟩,h2⟩,fun ⟨_,⟨l',h1,h3⟩,h2⟩=>⟨l',h1,h3 ▸ h2⟩⟩
   case own=>exact⟨fun ⟨l',h1,h2⟩=>⟨_,⟨l',h1,rfl⟩,h2⟩,fun ⟨_,⟨l',h1,h3⟩,h2⟩=>⟨l',h1,h3 ▸ h2⟩⟩
   all_goals simp
 cases a<;>simp only[ND,Yi,tup,Option.map_eq_some_iff]
 case agg=>exact⟨fun ⟨l',h1,h2⟩=>⟨_,⟨l',h1,rfl⟩,h2⟩,fun ⟨_,⟨l',h1,h3⟩,h2⟩=>⟨l',h1,h3 ▸ h2⟩⟩
 case tup=>exact⟨fun ⟨l',h1,h2⟩=>⟨_,⟨l',h1,rfl⟩,h2⟩,fun ⟨_,⟨l',h1,h3⟩,h2⟩=>⟨l',h1,h3 ▸ h2⟩⟩
 all_goals simp
theorem En :∀(wr:W) (ob:Nat->Option OB) (r:Nat),(∀x∈wr,x.1≠r)->Au ob wr r=ob r
 | [],ob,r,_=>rfl
 | (r',o)::wr,ob,r,h=>by
  simp only[Au]
  rw[En wr _ r fun x hx=>h x (by simp[hx]),AK _ _ _ _ (Ne.symm (h (r',o) (by simp)))]
theorem QY :∀(ρ:List Nat) (objs:List OB) (ob:Nat->Option OB),ρ.Nodup->ρ.length=objs.length->
  (∀i (hi:i<ρ.length) (hi':i<objs.length),Au ob (ρ.zip objs) ρ[i]=some objs[i])/\∀r,r∉ρ->Au ob (ρ.zip objs) r=ob r
 | [],[],ob,_,_=>⟨fun i hi=>by simp at hi,fun r _=>rfl⟩
 | r::ρ,o::objs,ob,hn,hl=>by
  obtain⟨hr,hn'⟩:=List.nodup_cons.1 hn
  obtain⟨h1,h2⟩:=QY ρ objs (upd ob r (some o)) hn' (by simpa using hl)
  simp only[List.zip_cons_cons,Au]
  refine⟨fun i hi hi'=>?_,fun r' hr'=>?_⟩
  ·cases i with
   | zero=>simp only[List.getElem_cons_zero];rw[h2 r hr,upd_same]
   | succ i=>exact h1 i (by simpa using hi) (by simpa using hi')
  simp only[List.mem_cons,not_or] at hr'
  rw[h2 r' hr'.2,AK _ _ _ _ hr'.1]
 | [],_::_,_,_,hl=>by simp at hl
 | _::_,[],_,_,hl=>by simp at hl
theorem VA {α β:Type} :∀(l:List α) (k:List β),l.zip k=(l.take k.length).zip k
 | [],k=>by simp
 | x::l,[]=>by simp
 | x::l,y::k=>by simp[<- VA l k]
def back (ρ:List Nat)(φ φ':Nat->Option (Nat×Rp)):Nat->Option (Nat×Rp):=fun r=>if r∈ρ then φ' (ρ.idxOf r) else φ r
theorem IU {ρ:List Nat}(hn:ρ.Nodup){φ φ':Nat->Option (Nat×Rp)}{i:Nat}(hi:i<ρ.length):back ρ φ φ' ρ[i]=φ' i:=by
 unfold back
 rw[if_pos (List.getElem_mem hi),hn.idxOf_getElem i hi]
theorem JC {ρ:List Nat}{φ φ':Nat->Option (Nat×Rp)}{r:Nat}(h:r∉ρ):back ρ φ φ' r=φ r:=by
 unfold back;rw[if_neg h]
theorem Mem.merge {w':World}{S':Sc}{φ':Nat->Option (Nat×Rp)}{objs objs':List OB}{ρ ρ':List Nat}(m:Mem E w S φ ob)(hρ :∀r∈ρ,ob r≠none)(hob:ofL objs=sel ρ ob)(hlen:objs.length=ρ.length)
  {gb':Nat->Prop} {hg':GlobOK E.wl gb' (Iz (sel ρ φ) objs.length) S w} (m':Mem ⟨w,S,Iz (sel ρ φ) objs.length,E.wl,gb',hg'⟩ w' S' φ' (ofL objs')) (k':Kept w S (sel ρ φ) (ofL objs) w' S' φ' (ofL objs')) (hcl :∀o∈objs',BW o=true) (hn:ρ'.Nodup) (hl:ρ'.length=objs'.length) (hx:Ext ρ ρ')
  (hnew :∀r∈ρ',r∈ρ\/ob r=none) :
  Mem E w' S' (back ρ' φ φ') (Au ob (ρ'.zip objs'))/\Kept w S φ ob w' S' (back ρ' φ φ') (Au ob (ρ'.zip objs')):=by
 obtain⟨z1,z2⟩:=QY ρ' objs' ob hn hl
 have hsub :∀r,r∈ρ->r∈ρ':=fun r hr=>by obtain⟨l,rfl⟩:=hx;exact List.mem_append_left _ hr
 have hge:ρ.length<=ρ'.length:=by obtain⟨l,rfl⟩:=hx;simp
 have old :∀{r:Nat},ob r≠none->r∉ρ' \/∃i,∃hi:i<ρ.length,ρ[i]=r/\∃hi':i<ρ'.length,ρ'[i]=r:=by
  intro r hr
  by_cases h:r∈ρ'
  ·rcases hnew r h with h' | h'
   ·obtain⟨i,hi,rfl⟩:=List.getElem_of_mem h'
    refine .inr ⟨i,hi,rfl,by omega,?_⟩
    have:=hx.get hi
    rw[X15 hi,X15 (by omega)] at this
    exact X25 this
   exact absurd h' hr
  exact .inl h
 have notPB :∀{r b c},ob r≠none->r∉ρ->φ r=some (b,c)->¬ Iz (sel ρ φ) objs.length b:=by
  rintro r b c h1 h2 h3 ⟨i,c',hi,hs⟩
  rw[hlen] at hi
  simp only[sel,X15 hi,Option.bind_some] at hs
  exact h2 (m.inj r ρ[i] b c c' h1 (hρ _ (List.getElem_mem hi)) h3 hs ▸ List.getElem_mem hi)
 have oblk :∀{r b c},ob r≠none->r∉ρ->φ r=some (b,c)->w'.heap[b]?=w.heap[b]?/\∀o,S' b o->S b o:=by
  intro r b c h1 h2 h3
  have hb:=(m.ow r b c h1 h3).1
  have hp:=notPB h1 h2 h3
  exact⟨m'.fr b hb hp,fun o ho=>m'.nS b o ho hb hp⟩
 have hk:Kept w S φ ob w' S' (back ρ' φ φ') (Au ob (ρ'.zip objs')):=by
  refine⟨k'.k,fun r hr=>?_,fun r hr=>?_⟩
  ·rcases old hr with h | ⟨i,hi,e1,hi',e2⟩
   ·refine .inl ?_
    rw[JC h,z2 r h]
    exact⟨rfl,rfl,id⟩
   have hr2:=k'.r i (by rw[hob];simp[sel,hi,e1,hr])
   have q1:sel ρ φ i=φ r:=by simp[sel,hi,e1]
   have q2:ofL objs i=ob r:=by rw[hob];simp[sel,hi,e1]
   have q3:back ρ' φ φ' r=φ' i:=by rw[<- e2];exact IU hn hi'
   have q4:Au ob (ρ'.zip objs') r=ofL objs' i:=by rw[<- e2,z1 i hi' (by omega)];simp[ofL,show i<objs'.length by omega]
   unfold RefOK at hr2 ⊢
   rw[q1,q2] at hr2
   rw[q3,q4]
   exact hr2
  rcases old hr with h | ⟨i,hi,e1,hi',e2⟩
  ·rw[z2 r h];exact hr
  rw[<- e2,z1 i hi' (by omega)];simp
 refine⟨⟨?_,?_,?_,?_,?_,m'.bS |> fun h=>h,?_,?_,?_,?_,?_⟩,hk⟩
 ·intro r o h
  by_cases hr:r∈ρ'
  ·obtain⟨i,hi,rfl⟩:=List.getElem_of_mem hr
   rw[z1 i hi (by omega)] at h
   obtain rfl:=X25 h
   exact (m'.obj i objs'[i] (by simp[ofL,show i<objs'.length by omega])).rename (hcl _ (List.getElem_mem _)) (IU hn hi)
  rw[z2 r hr] at h
  exact (m.obj r o h).keep hk (JC hr) (fun b c hb=>oblk (by simp[h]) (fun hh=>hr (hsub r hh)) hb) (m.men r o h)
 ·intro r1 r2 b c c' h1 h2 g1 g2
  have inout :∀{r1 r2 b c c'},r1∈ρ'->r2∉ρ'->Au ob (ρ'.zip objs') r2≠none->back ρ' φ φ' r1=some (b,c)->back ρ' φ φ' r2=some (b,c')->False:=by
   intro r1 r2 b c c' e1 e2 h2 g1 g2
   obtain⟨i,hi,rfl⟩:=List.getElem_of_mem e1
   rw[IU hn hi] at g1
   rw[JC e2] at g2
   rw[z2 _ e2] at h2
   have q1:=m'.ow i b c (by simp[ofL,show i<objs'.length by omega]) g1
   have q2:=(m.ow r2 b c' h2 g2).1
   rcases q1.2 with q | q
   ·simp only at q;omega
   exact notPB h2 (fun hh=>e2 (hsub r2 hh)) g2 q
  by_cases e1:r1∈ρ'
  ·by_cases e2:r2∈ρ'
   ·obtain⟨i,hi,rfl⟩:=List.getElem_of_mem e1
    obtain⟨j,hj,rfl⟩:=List.getElem_of_mem e2
    rw[IU hn hi] at g1
    rw[IU hn hj] at g2
    have:i=j:=m'.inj i j b c c' (by simp[ofL,show i<objs'.length by omega]) (by simp[ofL,show j<objs'.length by omega]) g1 g2
    subst this;rfl
   exact (inout e1 e2 h2 g1 g2).elim
  by_cases e2:r2∈ρ'
  ·exact (inout e2 e1 h1 g2 g1).elim
  rw[JC e1] at g1;rw[JC e2] at g2
  rw[z2 _ e1] at h1;rw[z2 _ e2] at h2
  exact m.inj r1 r2 b c c' h1 h2 g1 g2
 ·intro r o h r' hm
  by_cases hr:r∈ρ'
  ·obtain⟨i,hi,rfl⟩:=List.getElem_of_mem hr
   rw[z1 i hi (by omega)] at h
   obtain rfl:=X25 h
   rw[Jy (hcl _ (List.getElem_mem _))] at hm
   simp at hm
  rw[z2 r hr] at h
  exact hk.c _ (m.men r o h r' hm)
 ·exact fun b o h=>m'.sS b o (m.sS b o h)
 ·exact fun b o h=>(m'.kS b o (m.sS b o h)).trans (m.kS b o h)
 ·intro b o h hb hp
  by_cases hq:Iz (sel ρ φ) objs.length b
  ·obtain⟨i,c,hi,hs⟩:=hq
   rw[hlen] at hi
   simp only[sel,X15 hi,Option.bind_some] at hs
   rcases (m.ow ρ[i] b c (hρ _ (List.getElem_mem hi)) hs).2 with g | g
   ·omega
   exact absurd g hp
  exact m.nS b o (m'.nS b o h (Nat.lt_of_lt_of_le hb m.sz) hq) hb hp
 ·intro b hb hp
  refine (m'.fr b (Nat.lt_of_lt_of_le hb m.sz) fun hq=>?_).trans (m.fr b hb hp)
  obtain⟨i,c,hi,hs⟩:=hq
  rw[hlen] at hi
  simp only[sel,X15 hi,Option.bind_some] at hs
  rcases (m.ow ρ[i] b c (hρ _ (List.getElem_mem hi)) hs).2 with g | g
  ·omega
  exact hp g
 ·exact Nat.le_trans m.sz m'.sz
 ·intro r b c h g
  by_cases hr:r∈ρ'
  ·obtain⟨i,hi,rfl⟩:=List.getElem_of_mem hr
   rw[IU hn hi] at g
   have q:=m'.ow i b c (by simp[ofL,show i<objs'.length by omega]) g
   refine⟨q.1,?_⟩
   rcases q.2 with q | ⟨j,c',hj,hs⟩
   ·have:=m.sz;simp only at q;exact .inl (by omega)
   rw[hlen] at hj
   simp only[sel,X15 hj,Option.bind_some] at hs
   exact (m.ow ρ[j] b c' (hρ _ (List.getElem_mem hj)) hs).2
  rw[z2 r hr] at h
  rw[JC hr] at g
  have q:=m.ow r b c h g
  have:=m'.sz
  simp only at this
  exact⟨by omega,q.2⟩
 obtain⟨a1,a2,a3,a4⟩:=m'.os
 obtain⟨b1,b2,b3,b4⟩:=m.os
 exact⟨a1.trans b1,a2.trans b2,a3.trans b3,a4.elim .inl fun a=>b4.imp_right fun h=>Nat.le_trans h a⟩
theorem Rl {obl:List (Option OB)}(m1:Mem E w S1 φ (Au (fun r=>obl.getD r none) wr1))(k1:Kept w S φ (fun r=>obl.getD r none) w S1 φ (Au (fun r=>obl.getD r none) wr1))(hx1:FrzExt (fun r=>obl.getD r none) (Au (fun r=>obl.getD r none) wr1))
  {f:FuncId} {asz':List AV} {vals:Array Value} {ρ ρ' ρ0:List Nat} {self:Nat} {objs objs':List OB} {res res':AV} (hw1:UR obl wr1) (hn:ρ.Nodup) (hρ :∀x∈ρ,x∈([]:List Nat)\/obl.getD x none≠none)
  (seen:All2 (fun a v=>SeenAs S1 w φ (Au (fun r=>obl.getD r none) wr1) ρ a v) asz' vals.toList) (hap:LO.apartW wr1 ρ=true) (hlen:objs.length=ρ.length)
  (hobj :∀i (hi:i<objs.length) (hi':i<ρ.length),obl.getD ρ[i] none=some objs[i]/\BW objs[i]=true) (hC:A4 E.wl P f asz' objs res objs') (hren:Yi ρ0 self res=some res') (hcl :∀o∈objs',BW o=true)
  (hidx :∀i (hi:i<ρ'.length),ρ0.getD i self=ρ'[i]) (hρlen:ρ'.length=objs'.length) (hx:Ext ρ ρ') (hn':ρ'.Nodup) (hnew0 :∀r∈ρ',r∈ρ\/obl[r]?=some none) :
  (∀ r o, (r, o) ∈ wr1 ++ ρ'.zip objs' → r < obl.length) ∧ (∃ fn, P.funcs[f]? = some fn ∧ fn.name ≠ "runtime.NumGoroutine" ∧ fn.body.isSome = true) ∧
   Calls P f vals w fun e w'=>∃v,e=.returned v/\Post E w S φ (fun r=>obl.getD r none) res' (wr1++ρ'.zip objs') v w':=by
 obtain⟨hfn,hcall⟩:=hC
 have hap' :∀x∈wr1,∀r∈ρ,x.1≠r:=by
  intro x hx r hr e
  simp only[LO.apartW,List.all_eq_true] at hap
  have:=hap x hx r hr
  rw[show Nat.beq r x.1=true by rw[e];exact Nat.beq_refl r] at this
  simp at this
 have hρ' :∀r∈ρ,obl.getD r none≠none:=fun r hr=>(hρ r hr).resolve_left (by simp)
 have hob1 :∀r∈ρ,Au (fun r=>obl.getD r none) wr1 r=obl.getD r none:=fun r hr=>En _ _ _ fun x hx=>hap' x hx r hr
 have hob:ofL objs=sel ρ (Au (fun r=>obl.getD r none) wr1):=by
  funext i
  by_cases hi:i<ρ.length
  ·have hi':i<objs.length:=by omega
   simp only[ofL,sel,X15 hi,X15 hi',Option.bind_some]
   rw[hob1 _ (List.getElem_mem hi),(hobj i hi' hi).1]
  simp[ofL,sel,show ρ.length<=i by omega,show objs.length<=i by omega]
 have hρ1 :∀r∈ρ,Au (fun r=>obl.getD r none) wr1 r≠none:=fun r hr=>by rw[hob1 r hr];exact hρ' r hr
 have hg0:GlobOK E.wl E.gb (Iz (sel ρ φ) objs.length) S1 w:=m1.glob fun b hb=>by
  obtain⟨i,c,hi,hs⟩:=hb
  have hi':i<ρ.length:=by omega
  exact⟨ρ[i],c,hρ1 _ (List.getElem_mem hi'),by simpa[sel,hi'] using hs⟩
 have m0:Mem ⟨w,S1,Iz (sel ρ φ) objs.length,E.wl,E.gb,hg0⟩ w S1 (sel ρ φ) (ofL objs):=by
  have get :∀{i:Nat},ofL objs i≠none->∃hi:i<ρ.length,Au (fun r=>obl.getD r none) wr1 ρ[i]≠none/\sel ρ φ i=φ ρ[i]:=by
   intro i h
   have hi:i<ρ.length:=by
    refine Nat.lt_of_not_le fun hge=>h ?_
    simp[ofL,show objs.length<=i by omega]
   exact⟨hi,hρ1 _ (List.getElem_mem hi),by simp[sel,hi]⟩
  refine⟨fun i o h=>?_,fun i j b c c' h1 h2 g1 g2=>?_,fun i o h r' hm=>?_,fun _ _ h=>h,fun _ _ _=>rfl,m1.bS,fun _ _ h _ _=>h,fun _ _ _=>rfl,Nat.le_refl _,fun i b c h g=>?_,rfl,rfl,rfl,.inr (Nat.le_refl _)⟩
  ·obtain⟨hi,h1,h2⟩:=get (i:=i) (by simp[h])
   have hi':i<objs.length:=by omega
   have e1:objs[i]=o:=by simpa[ofL,hi'] using h
   have e2:Au (fun r=>obl.getD r none) wr1 ρ[i]=some objs[i]:=by rw[hob1 _ (List.getElem_mem hi),(hobj i hi' hi).1]
   rw[<- e1]
   exact (m1.obj _ _ e2).rename (hobj i hi' hi).2 h2
  ·obtain⟨hi,p1,p2⟩:=get h1
   obtain⟨hj,q1,q2⟩:=get h2
   rw[p2] at g1
   rw[q2] at g2
   have:=m1.inj _ _ b c c' p1 q1 g1 g2
   exact (List.getElem_inj hn).1 this
  ·obtain⟨hi,_,_⟩:=get (i:=i) (by simp[h])
   have hi':i<objs.length:=by omega
   have e1:objs[i]=o:=by simpa[ofL,hi'] using h
   rw[<- e1,Jy (hobj i hi' hi).2] at hm
   simp at hm
  obtain⟨hi,p1,p2⟩:=get h
  exact⟨(m1.ow _ b c p1 (p2 ▸ g)).1,.inr ⟨i,c,by omega,g⟩⟩
 have hsz:vals.size=asz'.length:=by
  have :∀{l:List AV} {k:List Value} {R:AV->Value->Prop},All2 R l k->l.length=k.length:=by
   intro l k R h
   induction h with
   | nil=>rfl
   | cons _ _ ih=>simp[ih]
  have:=this seen
  simpa using this.symm
 have hargs :∀i (hi:i<asz'.length),RepA S1 w (sel ρ φ) (ofL objs) asz'[i] (vals.getD i undef)/\Closed (ofL objs) asz'[i]:=by
  have get :∀{l:List AV} {k:List Value} {R:AV->Value->Prop},All2 R l k->∀i (hi:i<l.length),∃v,k[i]?=some v/\R l[i] v:=by
   intro l k R h
   induction h with
   | nil=>intro i hi;simp at hi
   | cons h _ ih=>
    intro i hi
    cases i with
    | zero=>exact⟨_,rfl,h⟩
    | succ i=>exact ih i (by simpa using hi)
  intro i hi
  obtain⟨v,h1,h2,h3⟩:=get seen i hi
  have:vals.getD i undef=v:=by
   have:vals[i]?=some v:=by simpa using h1
   simp[this]
  rw[this,hob]
  refine⟨h2,fun r hr=>?_⟩
  have hlt:=h3 r hr
  simp only[sel,X15 hlt,Option.bind_some]
  exact hρ1 _ (List.getElem_mem hlt)
 have hnone :∀r,objs.length<=r->sel ρ φ r=none:=fun r hr=>by simp[sel,show ρ.length<=r by omega]
 have hnew :∀r∈ρ',r∈ρ\/Au (fun r=>obl.getD r none) wr1 r=none:=fun r hr=>(hnew0 r hr).imp id fun h=>hx1.none (C6 h).1
 refine⟨fun r o hm=>?_,hfn,(hcall w S1 (sel ρ φ) E.gb hg0 vals hsz hargs hnone m0).mono ?_⟩
 ·rcases X23.1 hm with hm | hm
  ·obtain⟨e',sz',es',f',e1,_⟩:=hw1 r o hm
   exact Bo obl r _ e1
  rcases hnew0 r (List.of_mem_zip hm).1 with h' | h'
  ·cases hg:obl.getD r none with
   | none=>exact absurd hg (hρ' r h')
   | some o=>exact Bo obl r o hg
  exact (C6 h').2
 rintro e w' ⟨v,he,S',φ',mm,kk,rr,cc⟩
 refine⟨v,he,?_⟩
 obtain⟨m2,k2⟩:=m1.merge hρ1 hob hlen mm kk hcl hn' hρlen hx hnew
 obtain⟨z1,z2⟩:=QY ρ' objs' (Au (fun r=>obl.getD r none) wr1) hn' hρlen
 have hres:=Wi (ρ:=ρ0) (self:=self) (φ':=back ρ' φ φ') (ob':=Au (Au (fun r=>obl.getD r none) wr1) (ρ'.zip objs')) (K:=fun a=>a=res') rr cc (fun i hi=>by
  have hi':i<objs'.length:=by
   refine Nat.lt_of_not_le fun hge=>hi ?_
   simp[ofL,hge]
  have hi2:i<ρ'.length:=by omega
  rw[hidx i hi2]
  exact⟨IU hn' hi2,by rw[z1 i hi2 hi'];simp[ofL,hi']⟩) ((Nz _ _ _ _).2 ⟨res',hren,rfl⟩)
 obtain⟨_,rfl,r1,r2⟩:=hres
 refine⟨S',back ρ' φ φ',?_,?_,?_,?_⟩
 ·rw[AT];exact m2
 ·rw[AT];exact k1.trans k2
 ·rw[AT];exact r1
 rw[AT];exact r2
theorem U7 {obl:List (Option OB)}{cx:Cx}(hC :∀f args objs res objs',cx.C f args objs res objs'->A4 E.wl P f args objs res objs')(m:Mem E w S φ (fun r=>obl.getD r none)){f:FuncId}{self:Nat}{args:List AV}{vals:Array Value}{K:AV->W->Prop}
  (hv:All2 (fun a v=>RepA S w φ (fun r=>obl.getD r none) a v/\Closed (fun r=>obl.getD r none) a) args vals.toList) (h:Vb cx f self args obl K) :
  ∃ out wr, K out wr ∧ (∀ r o, (r, o) ∈ wr → r < obl.length) ∧ (∃ fn, P.funcs[f]? = some fn ∧ fn.name ≠ "runtime.NumGoroutine" ∧ fn.body.isSome = true) ∧
   Calls P f vals w fun e w'=>∃v,e=.returned v/\Post E w S φ (fun r=>obl.getD r none) out wr v w':=by
 rw[V1] at h
 unfold LO at h
 obtain⟨asz',ρ,wr1,S1,hK,m1,k1,hx1,hw1,_,hn,hρ,seen⟩:=LR m (FrzExt.refl _) List.nodup_nil hv h
 rw[AI] at hK
 obtain⟨hap,hK⟩:=hK
 obtain⟨objs,hK,hlen,hobj⟩:=He hK
 obtain⟨res,objs',hCf,hself,hK⟩:=hK
 rw[Nz] at hK
 obtain⟨res',hren,hK⟩:=hK
 obtain⟨wr2,hK,hcl,hl2,hwr2⟩:=PS hK
 have hzip:(ρ++[self]).zip objs'=((ρ++[self]).take objs'.length).zip objs':=VA _ _
 rcases hl2 with hl | hl
 ·have hρ2:(ρ++[self]).take objs'.length=ρ:=by rw[hl,List.take_left'];rfl
  rw[hzip,hρ2] at hwr2
  obtain⟨c1,c2,c3⟩:=Rl m1 k1 hx1 (ρ':=ρ) (ρ0:=ρ) (self:=self) hw1 hn hρ seen hap hlen hobj (hC _ _ _ _ _ hCf) hren hcl (fun i hi=>by simp[hi]) hl.symm (.refl ρ) hn (fun r hr=>.inl hr)
  rw[<- hwr2] at c1 c3
  exact⟨res',_,hK,c1,c2,c3⟩
 have hρ2:(ρ++[self]).take objs'.length=ρ++[self]:=by rw[hl];exact List.take_of_length_le (by simp)
 rw[hzip,hρ2] at hwr2
 have hs:obl[self]?=some none:=by
  rcases hself with h | h
  ·omega
  exact h
 obtain⟨c1,c2,c3⟩:=Rl m1 k1 hx1 (ρ':=ρ++[self]) (ρ0:=ρ) (self:=self) hw1 hn hρ seen hap hlen hobj (hC _ _ _ _ _ hCf) hren hcl (fun i hi=>by
   rw[List.getElem_append]
   split
   ·rename_i hlt;simp[hlt]
   ·rename_i hlt;simp[show ρ.length<=i by omega]) (by simp[hl]) ⟨[self],rfl⟩ (by
   rw[List.nodup_append]
   exact⟨hn,by simp,fun a ha b hb e=>by
    simp at hb;subst hb;subst e
    exact ((hρ a ha).resolve_left (by simp)) (C6 hs).1⟩) (fun r hr=>by
   rcases X23.1 hr with h | h
   ·exact .inl h
   simp only[X14] at h;exact .inr (h ▸ hs))
 rw[<- hwr2] at c1 c3
 exact⟨res',_,hK,c1,c2,c3⟩
theorem PV :∀{ρ:List Nat} {objs:List OB} {K:W->Prop},TR ρ objs K->K (ρ.zip objs)/\(∀o∈objs,BW o=true)/\ρ.length=objs.length
 | [],[],K,h=>⟨h,by simp,rfl⟩
 | r::ρ,o::os,K,h=>by
  simp only[TR] at h
  split at h
  ·rename_i hc
   obtain⟨g1,g2,g3⟩:=PV h
   refine⟨g1,fun x hx=>?_,by simp[g3]⟩
   rcases List.mem_cons.1 hx with e | e
   ·rw[e];exact hc
   exact g2 x e
  exact h.elim
 | [],_::_,K,h=>by simp[TR] at h
 | _::_,[],K,h=>by simp[TR] at h
theorem VO {l:List Nat}{r:Nat}:Ni l r=true↔r∈l:=by
 induction l with
 | nil=>simp[Ni]
 | cons x l ih=>
  simp only[Ni,Bool.or_eq_true,ih,List.mem_cons]
  exact⟨fun h=>h.imp X30 id,fun h=>h.imp (fun e=>by rw[e];exact Nat.beq_refl x) id⟩
theorem Rh {l:List Nat}(h:Qj l=true):l.Nodup:=by
 induction l with
 | nil=>exact List.nodup_nil
 | cons x l ih=>
  simp only[Qj,X27,Bool.not_eq_true'] at h
  refine List.nodup_cons.2 ⟨fun hm=>?_,ih h.2⟩
  rw[VO.2 hm] at h
  simp at h
theorem Mem.grown (m:Mem E w S φ ob){w':World}(hb :∀b,b<w.heap.size->w'.heap[b]?=w.heap[b]?)(hs:w.heap.size<=w'.heap.size)(hos:w'.os=w.os/\w'.output=w.output/\w'.tape=w.tape/\(E.wl.wl\/w.drawn<=w'.drawn)) :
  Mem E w' S φ ob/\Kept w S φ ob w' S φ ob:=by
 have hc :∀{b o},b<w.heap.size->cellAt w' b o=cellAt w b o:=fun h=>C4 (hb _ h) _
 have hk:Kept w S φ ob w' S φ ob:=⟨fun b o h=>⟨h,hc (m.bS b o h)⟩,fun r _=>.refl φ ob r,fun r h=>h⟩
 refine⟨⟨fun r o h=>(m.obj r o h).keep hk rfl (fun b c hφ=>⟨hb b (m.ow r b c (by simp[h]) hφ).1,fun _ h=>h⟩) (m.men r o h),m.inj,m.men,m.sS,fun b o h=>(hc (m.bS b o (m.sS b o h))).trans (m.kS b o h),
  fun b o h=>Nat.lt_of_lt_of_le (m.bS b o h) hs,m.nS,fun b h1 h2=>(hb b (Nat.lt_of_lt_of_le h1 m.sz)).trans (m.fr b h1 h2),Nat.le_trans m.sz hs,fun r b c h1 h2=>⟨Nat.lt_of_lt_of_le (m.ow r b c h1 h2).1 hs,(m.ow r b c h1 h2).2⟩,
  hos.1.trans m.os.1,hos.2.1.trans m.os.2.1,hos.2.2.1.trans m.os.2.2.1,hos.2.2.2.elim .inl fun a=>m.os.2.2.2.imp_right fun h=>Nat.le_trans h a⟩,hk⟩
theorem RepD.scal {S':Sc}{w':World}{x:D}{v:Value}(h:RepD S w x v)(hs:PU x=true):RepD S' w' x v:=by
 cases h with
 | val v h=>exact .val v h
 | agg cs vs f h1 h2 h3 h4=>
  refine .agg cs vs f h1 h2 h3 fun i hi=>?_
  have:=h4 i hi
  simp only[PU,List.all_eq_true] at hs
  have hc:=hs cs[i] (List.getElem_mem hi)
  revert this hc
  generalize cs[i]=c
  intro this hc
  cases c with
  | val u=>cases this with | val _ h=>exact .val _ h
  | _=>simp at hc
 | nil=>simp[PU] at hs
 | lst0=>simp[PU] at hs
 | lst=>simp[PU] at hs
theorem RepA.scal {S':Sc}{w':World}{φ':Nat->Option (Nat×Rp)}{ob':Nat->Option OB}{x:AV}{v:Value}(h:RepA S w φ ob x v)(hs:XK x=true):RepA S' w' φ' ob' x v/\Closed ob' x:=by
 cases h with
 | d x v h=>exact⟨.d _ _ (h.scal hs),fun r hr=>by simp[AV.refs] at hr⟩
 | tup cs vs f h1 h2 h3=>
  have hc :∀c∈cs,∃x,c=.d x/\PU x=true:=by
   intro c hc
   simp only[XK,List.all_eq_true] at hs
   have:=hs c hc
   cases c<;>simp at this
   exact⟨_,rfl,this⟩
  refine⟨.tup cs vs f h1 h2 fun i hi=>?_,fun r hr=>?_⟩
  ·obtain⟨x,e,hx⟩:=hc cs[i] (List.getElem_mem hi)
   have:=h3 i hi
   rw[e] at this ⊢
   cases this with | d _ _ h=>exact .d _ _ (h.scal hx)
  obtain⟨c,g1,g2⟩:=AV.refs_mem' cs r (by simpa[AV.refs] using hr)
  obtain⟨x,rfl,_⟩:=hc c g1
  simp[AV.refs] at g2
 | _=>simp[XK] at hs
theorem WA {obl:List (Option OB)}{cx:Cx}(hC :∀f args objs res objs',cx.C f args objs res objs'->A4 E.wl P f args objs res objs')(m:Mem E w S φ (fun r=>obl.getD r none)){f:FuncId}{args:List AV}{vals:Array Value}{K:AV->W->Prop}
  (hv:All2 (fun a v=>RepA S w φ (fun r=>obl.getD r none) a v/\Closed (fun r=>obl.getD r none) a) args vals.toList) (h:ZI cx f args obl K) :
  ∃ out wr, K out wr ∧ (∀ r o, (r, o) ∈ wr → r < obl.length) ∧ (∃ fn, P.funcs[f]? = some fn ∧ fn.name ≠ "runtime.NumGoroutine" ∧ fn.body.isSome = true) ∧
   Calls P f vals w fun e w'=>∃v,e=.returned v/\Post E w S φ (fun r=>obl.getD r none) out wr v w':=by
 unfold ZI at h
 obtain⟨asz',ρ,wr1,S1,hK,m1,k1,hx1,hw1,_,hn,hρ,seen⟩:=LR m (FrzExt.refl _) List.nodup_nil hv h
 rw[AI] at hK
 obtain⟨hap,hK⟩:=hK
 obtain⟨objs,hK,hlen,hobj⟩:=He hK
 obtain⟨res,objs',b,hCf,hK⟩:=hK
 cases b with
 | some news=>
  simp only[AI,Nz] at hK
  obtain⟨hnw,res',hren,hK⟩:=hK
  obtain⟨hK,hcl,hl⟩:=PV hK
  simp only[Y9,X27,List.all_eq_true] at hnw
  have hno :∀r∈news,obl[r]?=some none:=by
   intro r hr
   have:=hnw.2 r hr
   split at this
   ·assumption
   simp at this
  obtain⟨c1,c2,c3⟩:=Rl m1 k1 hx1 (ρ':=ρ++news) (ρ0:=ρ++news) (self:=0) hw1 hn hρ seen hap hlen hobj (hC _ _ _ _ _ hCf) hren hcl (fun i hi=>by simp only[List.getD_eq_getElem?_getD,X15 hi,Option.getD_some]) hl ⟨news,rfl⟩ (by
    rw[List.nodup_append]
    exact⟨hn,Rh hnw.1,fun a ha b hb e=>by
     subst e
     exact ((hρ a ha).resolve_left (by simp)) (C6 (hno a hb)).1⟩) (fun r hr=>by
    rcases X23.1 hr with h | h
    ·exact .inl h
    exact .inr (hno r h))
  exact⟨res',_,hK,c1,c2,c3⟩
 | none=>
  simp only[AI,X27,List.isEmpty_iff] at hK
  obtain⟨⟨⟨rfl,rfl⟩,hs⟩,hK2⟩:=hK
  have hobjs:objs=[]:=List.eq_nil_of_length_eq_zero hlen
  subst hobjs
  obtain⟨hfn,hcall⟩:=hC _ _ _ _ _ hCf
  refine⟨res,[],hK2,fun r o hm=>by simp at hm,hfn,?_⟩
  have hsz:vals.size=asz'.length:=by
   have :∀{l:List AV} {k:List Value} {R:AV->Value->Prop},All2 R l k->l.length=k.length:=by
    intro l k R h
    induction h with
    | nil=>rfl
    | cons _ _ ih=>simp[ih]
   have:=this seen
   simpa using this.symm
  have he:(sel [] (Au (fun r=>obl.getD r none) wr1))=ofL []:=by funext i;simp[sel,ofL]
  have hg0:GlobOK E.wl E.gb (Iz (sel [] φ) ([]:List OB).length) S1 w:=m1.glob (PB:=Iz (sel [] φ) ([]:List OB).length) fun b hb=>by
   obtain⟨i,c,hi,_⟩:=hb
   simp at hi
  refine (hcall w S1 (sel [] φ) E.gb hg0 vals hsz (fun i hi=>?_) (fun r _=>by simp[sel]) ?_).mono ?_
  ·have get :∀{l:List AV} {k:List Value} {R:AV->Value->Prop},All2 R l k->∀i (hi:i<l.length),∃v,k[i]?=some v/\R l[i] v:=by
    intro l k R h
    induction h with
    | nil=>intro i hi;simp at hi
    | cons h _ ih=>
     intro i hi
     cases i with
     | zero=>exact⟨_,rfl,h⟩
     | succ i=>exact ih i (by simpa using hi)
   obtain⟨v,h1,h2,h3⟩:=get seen i hi
   have:vals.getD i undef=v:=by
    have:vals[i]?=some v:=by simpa using h1
    simp[this]
   rw[this]
   rw[he] at h2
   exact⟨h2,fun r hr=>absurd (h3 r hr) (by simp)⟩
  ·exact⟨fun r o h=>by simp[ofL] at h,fun r r' b c c' h=>by simp[ofL] at h,fun r o h=>by simp[ofL] at h,fun _ _ h=>h,fun _ _ _=>rfl,m1.bS,fun _ _ h _ _=>h,fun _ _ _=>rfl,Nat.le_refl _,fun r b c h=>by simp[ofL] at h,rfl,rfl,rfl,.inr (Nat.le_refl _)⟩
  rintro e w' ⟨v,he,S',φ',mm,kk,rr,cc⟩
  refine⟨v,he,S,φ,?_⟩
  have hpb :∀b,¬ Iz (sel [] φ) ([]:List OB).length b:=by rintro b ⟨r,c,h1,_⟩;simp at h1
  obtain⟨m2,k2⟩:=m.grown (w':=w') (fun b hb=>mm.fr b hb (hpb b)) mm.sz mm.os
  obtain⟨r1,r2⟩:=rr.scal (S':=S) (w':=w') (φ':=φ) (ob':=fun r=>obl.getD r none) hs
  exact⟨m2,k2,r1,r2⟩
end
end Go.AX
end
section
namespace Go.AX
section
variable {P:Program} {T:TT} {E:Env} {w:World} {S:Sc} {φ:Nat->Option (Nat×Rp)} {ob:Nat->Option OB}
theorem W9 {sz:Nat}{d:D}{lo hi:Option AV}{K:AV->Prop}(h:QW sz d lo hi K) :∃(es:List D) (l h':Int),d=.lst sz es/\
  (lo=none/\l=0 \/∃k,lo=some (.d (.val (.int k l))))/\(hi=none/\h'=es.length \/∃k,hi=some (.d (.val (.int k h'))))/\0<=l/\l<=h'/\h'<=es.length/\K (.d (.lst sz ((es.drop l.toNat).take (h'.toNat-l.toNat)))):=by
 cases d with
 | lst sz' es=>
  simp only[QW,AI] at h
  obtain⟨h1,h⟩:=h
  have h1:=X30 h1
  subst h1
  have b :∀(o:Option AV) (dflt:Int) (K:Int->Prop),EH o dflt K->∃i,(o=none/\i=dflt \/∃k,o=some (.d (.val (.int k i))))/\K i:=by
   intro o dflt K hk
   unfold EH at hk
   split at hk
   ·exact⟨dflt,.inl ⟨rfl,rfl⟩,hk⟩
   ·exact⟨_,.inr ⟨_,rfl⟩,hk⟩
   exact hk.elim
  obtain⟨l,hl,h⟩:=b _ _ _ h
  obtain⟨u,hu,h⟩:=b _ _ _ h
  obtain⟨⟨c1,c2,c3⟩,ys,rfl,hK⟩:=h
  exact⟨es,l,u,rfl,hl,hu,c1,c2,c3,hK⟩
 | _=>simp[QW] at h
theorem RepD.part {sz:Nat}{es:List D}{a:Option Addr}{n cap l h:Nat}(hr:RepD S w (.lst sz es) (.slice a n cap))(h1:l<=h)(h2:h<=es.length) :
  n=es.length/\n<=cap/\RepD S w (.lst sz ((es.drop l).take (h-l))) (.slice (if cap=l then a else a.map (·.add (l*sz))) (h-l) (cap-l)):=by
 cases hr with
 | lst0=>
  have:h=0:=by simpa using h2
  subst this
  have:l=0:=by omega
  subst this
  exact⟨rfl,Nat.zero_le _,by simpa using RepD.lst0 _ _ _⟩
 | lst _ _ b o _ f hl hc hsz hS hn hr=>
  refine⟨rfl,hc,?_⟩
  by_cases e:h=l
  ·subst e
   simp only[Nat.sub_self,List.take_zero]
   exact .lst0 _ _ _
  have hne:¬ cap=l:=by omega
  rw[if_neg hne]
  have hlen:((es.drop l).take (h-l)).length=h-l:=by simp;omega
  have hget :∀i (hi:i<((es.drop l).take (h-l)).length),((es.drop l).take (h-l))[i]=es[l+i]'(by omega):=by
   intro i hi;simp
  have:=RepD.lst (S:=S) (w:=w) sz ((es.drop l).take (h-l)) b (o+l*sz) (cap-l) (fun i j=>f (l+i) j) (by omega) (by omega) (fun i hi=>by rw[hget i hi];exact hsz _ _) (fun i j hi hj=>?_) (fun i hi j hj=>?_) (fun i hi j hj=>?_)
  ·rw[hlen] at this
   simpa only[Option.map_some,Addr.add_none] using this
  ·rw[hlen] at hi
   have:=hS (l+i) j (by omega) hj
   have e2:o+(l+i)*sz+j=o+l*sz+i*sz+j:=by rw[X32];omega
   rwa [e2] at this
  ·have:=hget i hi
   simp only[this] at hj ⊢
   exact hn (l+i) (by omega) j hj
  have:=hget i hi
  simp only[this] at hj ⊢
  exact hr (l+i) (by omega) j hj
theorem Fb {k:IntKind}{i:Int}{y:Nat}{c:BoundsCode}(h:0<=i/\i<=y):(Instr.sliceBound (.int k i) y c).run P w=.ok i.toNat w:=by
 unfold Instr.sliceBound
 simp[asIntOf,h.1,h.2]
theorem IS {t e:Nat}{ie:TypeInfo}(hk:P.underlying t=some (.slice e))(hi:P.info? e=some ie){a:Option Addr}{len cap:Nat}{lo hi':Option Value}{l h:Nat}
  (hl:lo=none/\l=0 \/∃k,lo=some (.int k (l:Int))) (hh:hi'=none/\h=len \/∃k,hi'=some (.int k (h:Int))) (h1:l<=h) (h2:h<=len) (h3:len<=cap) :
  (Instr.sliceAt t (.slice a len cap) lo hi' none).run P w=.ok (.slice (if cap=l then a else a.map (·.add (l*ie.size))) (h-l) (cap-l)) w:=by
 unfold Instr.sliceAt
 have hb:(Instr.sliceBounds true len cap lo hi' none).run P w=.ok (l,h,cap) w:=by
  unfold Instr.sliceBounds
  rcases hl with ⟨rfl,rfl⟩|⟨k,rfl⟩<;>rcases hh with ⟨rfl,rfl⟩|⟨k',rfl⟩
  ·simp
  ·simp[Sem.run_bind,Fb (P:=P) (w:=w) (k:=k') (c:=.sliceAcap) (i:=(h:Int)) (y:=cap) ⟨by omega,by omega⟩]
  ·simp[Sem.run_bind,Fb (P:=P) (w:=w) (k:=k) (c:=.sliceB) (i:=(l:Int)) (y:=h) ⟨by omega,by omega⟩]
  simp[Sem.run_bind,Fb (P:=P) (w:=w) (k:=k') (c:=.sliceAcap) (i:=(h:Int)) (y:=cap) ⟨by omega,by omega⟩,Fb (P:=P) (w:=w) (k:=k) (c:=.sliceB) (i:=(l:Int)) (y:=h) ⟨by omega,by omega⟩]
 simp[Sem.run_bind,run_underlying hk,Instr.slice,hb,sizeOf,typeInfo,hi]
theorem SR {t:Nat}(hk:P.underlying t=some .string){s:ByteArray}{lo hi':Option Value}{l h:Nat}
  (hl:lo=none/\l=0 \/∃k,lo=some (.int k (l:Int))) (hh:hi'=none/\h=s.size \/∃k,hi'=some (.int k (h:Int))) (h1:l<=h) (h2:h<=s.size) :
  (Instr.sliceAt t (.string s) lo hi' none).run P w=.ok (.string (s.extract l h)) w:=by
 unfold Instr.sliceAt
 have hb:(Instr.sliceBounds false s.size s.size lo hi' none).run P w=.ok (l,h,s.size) w:=by
  unfold Instr.sliceBounds
  rcases hl with ⟨rfl,rfl⟩|⟨k,rfl⟩<;>rcases hh with ⟨rfl,rfl⟩|⟨k',rfl⟩
  ·simp
  ·simp[Sem.run_bind,Fb (P:=P) (w:=w) (k:=k') (c:=.sliceAlen) (i:=(h:Int)) (y:=s.size) ⟨by omega,by omega⟩]
  ·simp[Sem.run_bind,Fb (P:=P) (w:=w) (k:=k) (c:=.sliceB) (i:=(l:Int)) (y:=s.size) ⟨by omega,by omega⟩]
  simp[Sem.run_bind,Fb (P:=P) (w:=w) (k:=k') (c:=.sliceAlen) (i:=(h:Int)) (y:=s.size) ⟨by omega,by omega⟩,Fb (P:=P) (w:=w) (k:=k) (c:=.sliceB) (i:=(l:Int)) (y:=h) ⟨by omega,by omega⟩]
 simp[Sem.run_bind,run_underlying hk,Instr.slice,hb]
theorem LL {z:D}{v:Value}(h:Iu z v):z.isAgg=false/\RepD S w z v:=by
 cases z with
 | val u=>obtain⟨rfl,h2⟩:=h;exact⟨rfl,.val _ h2⟩
 | nil sz=>simp only[Iu] at h;subst h;exact⟨rfl,.nil _⟩
 | _=>simp[Iu] at h
theorem V2 {obl:List (Option OB)}(hT:TabOk P T)(m:Mem E w S φ (fun r=>obl.getD r none)){t self:Nat}{n c:AV}{vn vc:Value}{K:AV->W->Prop}
  (hn:RepA S w φ (fun r=>obl.getD r none) n vn) (hc:RepA S w φ (fun r=>obl.getD r none) c vc) (h:Xs T t self n c obl K) :
  ∃out wr u w',K out wr/\(∀r o,(r,o)∈wr->r<obl.length)/\(Instr.makeSlice t vn vc).run P w=.ok u w'/\Post E w S φ (fun r=>obl.getD r none) out wr u w':=by
 unfold Xs at h
 split at h
 ·rename_i e n c hk
  rw[E6,AI,X27,X27] at h
  obtain⟨hself,⟨⟨hkn,hc1⟩,hs1c⟩,⟨b1,b2,b3,b4⟩,z,hz,zs,hzs,hK⟩:=h
  have hpos:0<(T.get e).size:=X29 hc1
  obtain⟨hs1,hs2⟩:=C6 hself
  have hte:=hT.of (A7 hkn)
  obtain⟨ie,z0,hie,hi1,hi2,hz0,hz1,hz2,hz3⟩:=hte.info
  obtain rfl:=hn.int;obtain rfl:=hc.int
  have hrun:=run_make (P:=P) w t e ie z0 (BB hT hk) hie hz0 .i64 .i64 n c b1 b2 (by
   rw[hi2]
   have:((T.get e).bytes:Int)*c<=65536*1048576:=Int.mul_le_mul (by omega) b3 (by omega) (by omega)
   omega) (by omega)
  have hzc:z.cells=(T.get e).zero.map fun x=>match x with
    | .nil sz=>.lst sz []
    | x=>x:=by
   rw[<- hz]
   split
   ·rfl
   rename_i hcl
   have h1:(T.get e).size=1:=by
    split at hs1c
    ·rename_i hq;exact absurd hq hcl
    exact X30 hs1c
   have hl:(T.get e).zero.length=1:=by omega
   obtain⟨x,hx⟩:=List.length_eq_one_iff.1 hl
   have hna :∀y∈(T.get e).zero,y.isAgg=false:=by
    intro y hy
    obtain⟨j,hj,rfl⟩:=List.getElem_of_mem hy
    have hj1:j<z0.cells.size:=by omega
    exact (LL (S:=S) (w:=w) (hz3 j hj z0.cells[j] (by simp[hj1]))).1
   rw[hx] at hna ⊢
   have:=hna x (by simp)
   cases x<;>first | rfl | simp[D.isAgg] at this
  have hzl:z.cells.length=(T.get e).size:=by rw[hzc];simp[hz2]
  have hcell :∀j (hj:j<z.cells.length),∃u,z0.cells[j]?=some u/\z.cells[j].isAgg=false/\RepD S w z.cells[j] u:=by
   intro j hj
   have hj0:j<(T.get e).zero.length:=by rw[hzl] at hj;omega
   have hj1:j<z0.cells.size:=by omega
   have hx0:=hz3 j hj0 z0.cells[j] (by simp[hj1])
   refine⟨z0.cells[j],by simp[hj1],?_⟩
   have e1:z.cells[j]=(match (T.get e).zero[j] with
    | .nil sz=>.lst sz []
    | x=>x):=by simp[hzc]
   rw[e1]
   obtain⟨a1,a2⟩:=LL (S:=S) (w:=w) hx0
   cases hq:(T.get e).zero[j] with
   | nil sz=>
    rw[hq] at a2
    generalize z0.cells[j]=u at a2 ⊢
    cases a2
    exact⟨rfl,.lst0 _ _ _⟩
   | val v=>rw[hq] at a1 a2;exact⟨a1,a2⟩
   | agg cs=>rw[hq] at a1;simp[D.isAgg] at a1
   | lst sz es=>rw[hq] at a1 a2;exact⟨rfl,a2⟩
  subst hzs
  have hzn :∀i (hi:i<(List.replicate n.toNat z).length),(List.replicate n.toNat z)[i]=z:=by intro i hi;simp
  refine⟨_,_,_,_,hK,fun r o hm=>?_,hrun,?_⟩
  ·simp only[X14,X26] at hm
   rw[hm.1];exact hs2
  have hsz:(madeCells z0.cells (c.toNat*ie.size)).size=c.toNat*(T.get e).size:=by rw[size_madeCells,hi1]
  have hat :∀i j,i<n.toNat->j<(T.get e).size->(madeCells z0.cells (c.toNat*ie.size))[i*(T.get e).size+j]?=z0.cells[j]?:=by
   intro i j hi hj
   have hlt:(i+1)*(T.get e).size<=c.toNat*(T.get e).size:=X31 _ (by omega)
   rw[X32] at hlt
   have hlt2:i*(T.get e).size+j<(madeCells z0.cells (c.toNat*ie.size)).size:=by omega
   rw[Array.getElem?_eq_getElem hlt2]
   have hm:(i*(T.get e).size+j)%z0.cells.size=j:=by rw[hz1,Nat.mul_comm,Nat.mul_add_mod,Nat.mod_eq_of_lt hj]
   have hj1:j<z0.cells.size:=by omega
   simp only[madeCells,Array.getElem_map,Array.getElem_range,hm]
   simp[hj1]
  obtain⟨m2,k2⟩:=m.alloc self (c.toNat,0) (.row e (T.get e).size (List.replicate n.toNat z) .no) (madeCells z0.cells (c.toNat*ie.size)) e hs1 (fun r hr=>by simp[OB.refs] at hr) (fun hk2=>by
   refine⟨hpos,fun i hi=>by rw[hzn i hi];exact hzl,fun i hi j hj=>?_,.inr ⟨w.heap.size,(c.toNat,0),madeCells z0.cells (c.toNat*ie.size),fun i j=>z0.cells.getD j undef,upd_same _ _ _,heap_alloc_new w _,by simp;omega,?_,Nat.le_of_eq ((Nat.zero_add _).trans hsz.symm),fun i j hi hj=>?_,fun i hi j hj=>?_,fun o _ ho=>absurd (m.bS _ _ ho) (Nat.lt_irrefl _),fun _ _ _ _ h=>nomatch h⟩⟩
   ·have:=hzn i hi
    simp only[this] at hj ⊢
    exact (hcell j hj).choose_spec.2.1
   ·simp only[maxLen];omega
   ·simp only[X20] at hi
    simp only[Nat.zero_add]
    rw[hat i j hi hj]
    have hj1:j<z0.cells.size:=by omega
    simp[hj1]
   have:=hzn i hi
   simp only[this] at hj ⊢
   obtain⟨u,q1,q2,q3⟩:=hcell j hj
   have:z0.cells.getD j undef=u:=by simp[q1]
   rw[this]
   exact q3.mono hk2.k)
  refine⟨S,_,m2,k2,?_,?_⟩
  ·refine .own self _ _ n.toNat c.toNat (some ⟨w.heap.size,0,none⟩) rfl (by simp) (fun e2 sz2 es2 f2 hx2=>?_) (fun cs hx2=>?_)
   ·simp only[Au,upd_same,X24,OB.row.injEq] at hx2
    obtain⟨rfl,rfl,rfl,rfl⟩:=hx2
    exact⟨by simp,fun _=>.inr ⟨_,_,upd_same _ _ _,by simp⟩⟩
   simp[Au] at hx2
  intro r hr
  simp only[AV.refs,X14] at hr
  subst hr
  simp[Au]
 exact h.elim
end
end Go.AX
end
