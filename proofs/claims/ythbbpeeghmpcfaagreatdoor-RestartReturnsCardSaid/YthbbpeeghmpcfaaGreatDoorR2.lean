/-
  Texts of one proof, packed.
-/
import Derived.Test.YthbbpeeghmpcfaaGreatDoorR1
import Derived.Great.BuildSlice
import Derived.Laws.IdiomCopy
import Derived.Laws.StructEq
set_option linter.all false
set_option maxRecDepth 100000
set_option maxHeartbeats 4000000
open List renaming length_map→X1,length_append→X2,mem_singleton→X11,getElem?_eq_getElem→X12,getElem?_eq_some_iff→X13,length_drop→X14,length_take→X15,length_replicate→X17,length_set→X18,mem_append→X20
open Option.some renaming injEq→X21,inj→X22
open Prod.mk renaming injEq→X23
open Nat renaming mul_le_mul_right→X28,add_mul→X29
open List renaming range→Xbu
open Go renaming run_underlying→Xae,Operand→Xbq,execOp→Xce,undef→Xck,Program→Xdn,typeInfo→Xdx
open Go.Result renaming andThen_ok→Xaw
open Go.Sem renaming run_bind→Xb0,run_pure→Xdd
open Go.Instr renaming sureAddr→Xd2,loadAt→Xdt
open Go.Value renaming cells→Xe2
section
namespace Go.AX
def zM (P:Xdn)(t:Nat):TK->Prop
 | .bool=>P.underlying t=some .bool
 | .int k=>P.underlying t=some (.int k)
 | .str=>P.underlying t=some .string
 | .ptr=>∃e,P.underlying t=some (.pointer e)
 | .fn=>∃a b c,P.underlying t=some (.func a b c)
 | .slice e=>P.underlying t=some (.slice e)
 | .arr n e=>P.underlying t=some (.array n e)
 | .map k e=>P.underlying t=some (.map k e)
 | .struct fs=>P.stoodInHeld t=false/\P.eqGuardType P.depth t=false/\∃F:Array Field,P.underlying t=some (.struct F)/\
   F.toList.map (fun f => (f.offset, (P.info? f.type).map (·.size), f.type)) = fs.map (fun x => (x.1, some x.2.1, x.2.2)) ∧ ∀ f ∈ F.toList, f.name ≠ "_"
 | .other=>True
def JZ:D->A->Prop
 | .val v,F=>v=F/\v.oneCell'=true
 | .nil _,F=>F=.slice none 0 0
 | _,_=>False
structure Lw (P:Program)(t:Nat)(ti:TI):Prop where
 Dg :∃i z,P.info? t=some i/\i.size=ti.size/\i.bytes=ti.bytes/\i.zero=some z/\z.cells.size=ti.size/\ti.zero.length=ti.size/\
  ∀j (hj:j<ti.zero.length) v,z.cells[j]?=some v->JZ ti.zero[j] v
 kind:zM P t ti.kind
 aggz :∀i z,P.info? t=some i->i.zero=some z->(ti.kind.Cy=some true->∃cs,z=.agg cs)/\(ti.kind.Cy=some false->∀cs,z≠.agg cs)
def xD (P:Xdn)(T:TT):Prop:=∀t,(T.get t).kind.Cy=none\/Lw P t (T.get t)
section
variable {P:Program} {T:TT}
def xD.of (h:xD P T){t:Nat}(F:(T.get t).kind.Cy≠none):Lw P t (T.get t):=(h t).resolve_left F
def Lw.L4 {t:Nat}{F:TI}(h:Lw P t F):(P.info? t).map (·.size)=some F.size:=by obtain⟨i,z,H,J,_⟩:=h.Dg;simp[H,J]
def zM.plain {t:Nat}{k:TK}(h:zM P t k)(F:k.Cy=some false) :∃d,P.underlying t=some d/\d.isRow=false:=by
 cases k<;>simp[TK.Cy] at F<;>simp only[zM] at h;case ptr=>obtain⟨e,h⟩:=h;exact⟨_,h,rfl⟩
 case fn=>obtain⟨a,b,c,h⟩:=h;exact⟨_,h,rfl⟩
 all_goals exact⟨_,h,rfl⟩
def zM.row {t:Nat}{k:TK}(h:zM P t k)(H:k.Cy=some true) :∃d,P.underlying t=some d/\d.isRow=true:=by
 cases k<;>simp[TK.Cy] at H<;>simp only[zM] at h;case arr=>exact⟨_,h,rfl⟩
 case struct=>obtain⟨_,_,F,h,_⟩:=h;exact⟨_,h,rfl⟩
def QN {t:Nat}{d:TypeDesc}(h:P.underlying t=some d)(w:B):(isAgg t).run P w=.ok d.isRow w:=by unfold isAgg;rw[Xb0,Xae h w];cases d<;>rfl
def Af (ob:Nat->C OB):W->Nat->C OB
 | []=>ob
 | (r,x)::w=>Af (zg ob r (some x)) w
def z6 (P:Xdn)(o:z)(ρ:Xbq->A)(w:B)(Q:A->B->Prop):Prop:=
 match (Xce ρ o).run P w with
 | .ok (.value v) w'=>Q v w'
 | .ok .skip w'=>Q Xck w'
 | .ok (.enter f args) w'=>Calls P f args w' λe F=>∃v,e=.returned v/\Q v F
 | _=>False
def zP (E:Env)(w:B)(S:Sc)(φ:Nat->C (Nat×Rp))(ob:Nat->C OB)(F:AV)(wr:W)(v:A)(w':B):Prop:=
 ∃S' φ',Mem E w' S' φ' (Af ob wr)/\Kept w S φ ob w' S' φ' (Af ob wr)/\kI S' w' φ' (Af ob wr) F v/\oA (Af ob wr) F
variable {E:Env} {w:B} {S:Sc} {φ:Nat->C (Nat×Rp)} {ob:Nat->C OB}
def zP.pure (m:Mem E w S φ ob){F:AV}{v:A}(h:kI S w φ ob F v)(H:oA ob F):zP E w S φ ob F [] v w:=
 ⟨S,φ,m,.refl w S φ ob,h,H⟩
def A0 (ob:Nat->C OB)(x:D):oA ob (.d x):=λr F=>by simp[AV.refs] at F
def GT (ob:Nat->C OB):oA ob .dead:=λr F=>by simp[AV.refs] at F
def kI.int {k:IntKind}{n:Int}{v:A}(h:kI S w φ ob (.d (.val (.int k n))) v):v=.int k n:=by cases h with|d _ _ h=>cases h with|val _ _=>rfl
def kI.bool {b:I}{v:A}(h:kI S w φ ob (.d (.val (.bool b))) v):v=.bool b:=by cases h with|d _ _ h=>cases h with|val _ _=>rfl
def kI.str {s:ByteArray}{v:A}(h:kI S w φ ob (.d (.val (.string s))) v):v=.string s:=by cases h with|d _ _ h=>cases h with|val _ _=>rfl
def kI.val {x v:A}(h:kI S w φ ob (.d (.val x)) v):v=x:=by cases h with|d _ _ h=>cases h with|val _ _=>rfl
def kI.Tp {r off:Nat}{v:A}(h:kI S w φ ob (.ref r off) v) :∃b c,φ r=some (b,c)/\v=.pointer (some ⟨b,off,none⟩):=by cases h with|ref _ _ b c h F=>exact⟨b,c,h,rfl⟩
def Cb (l:O (C OB))(r:Nat)(o:OB):l.getD r none=some o->r<l.length:=by
 intro h;rcases Xei r l.length with F|F
 ·exact F
 simp[F] at h
def Addr.C8 (b o n:Nat):(⟨b,o,none⟩:Addr).add n=⟨b,o+n,none⟩:=Addr.add_mid b o n
def AV.z8 :∀(F:O AV) (j:Nat) (H:j<F.length) (r:Nat),r∈F[j].refs->r∈AV.refs.refsL F
 | [],j,H,_,_=>by simp at H
 | c::F,0,_,r,hm=>by simp only[AV.refs.refsL,X20];exact .inl hm
 | c::F,j+1,H,r,hm=>by simp only[AV.refs.refsL,X20];exact .inr (AV.z8 F j (by simpa using H) r hm)
def AV.Bs :∀(F:O AV) (r:Nat),r∈AV.refs.refsL F->∃c∈F,r∈c.refs
 | [],r,h=>by simp[AV.refs.refsL] at h
 | c::F,r,h=>by
  simp only[AV.refs.refsL,X20] at h;rcases h with h|h
  ·exact⟨c,by simp,h⟩
  obtain⟨H,J,K⟩:=AV.Bs F r h;exact⟨H,by simp[J],K⟩
def PE {H:O AV}{vs:Array A}(M:vs.size=H.length)(h :∀i (F:i<H.length),∃v,vs[i]?=some v/\H[i].one=true/\kI S w φ ob H[i] v) : kI S w φ ob (jP H) (.agg vs):=by
 have Q :∀i (F:i<H.length),vs[i]?=some (vs.getD i Xck):=λi F=>by obtain⟨v,J,_⟩:=h i F;simp[J]
 have U :∀i (F:i<H.length),kI S w φ ob H[i] (vs.getD i Xck):=λi F=>by obtain⟨v,J,_,V⟩:=h i F;simpa[J] using V
 unfold jP;cases Y:VJ H with
 | none=>exact .agg H vs _ M Q (λi F=>by obtain⟨v,_,K,_⟩:=h i F;exact K) U
 | some l=>
  have:=iS H l Y;subst this;refine .d _ _ (.agg l vs _ (by simpa using M) (λi F=>Q i (by simpa using F)) (λi F=>?_) λi F=>?_)
  ·obtain⟨v,_,K,_⟩:=h i (by simpa using F);simpa[AV.one] using K
  have:=U i (by simpa using F);simp only[Xb6] at this;cases this with|d _ _ h=>exact h
def JQ {F:O AV}(h :∀c∈F,oA ob c):oA ob (jP F):=by
 unfold jP;cases M:VJ F with
 | some l=>exact A0 ob _
 | none=>intro r H;obtain⟨c,J,K⟩:=AV.Bs F r (by simpa[AV.refs] using H);exact h c J r K
def Qd {a:AV}{v:A}{J:O AV}(h:kI S w φ ob a v)(F:C2 a=some J) : v.cells.size=J.length/\∀i (H:i<J.length),∃u,v.cells[i]?=some u/\J[i].one=true/\kI S w φ ob J[i] u:=by
 have one :∀{a:AV} {v:A},kI S w φ ob a v->a.one=true->v.cells.size=[a].length/\∀i (H:i<[a].length),∃u,v.cells[i]?=some u/\[a][i].one=true/\kI S w φ ob [a][i] u:=by
  intro a v h K;have Y:=h.one K;have Z:v.cells=#[v]:=by cases v<;>first|rfl|simp[Value.oneCell'] at Y
  refine⟨by simp[Z],λi H=>?_⟩;have:i=0:=by simpa using H
  subst this;exact⟨v,by simp[Z],K,h⟩
 cases a with
 | d x=>
  cases x with
  | agg l=>
   simp only[C2] at F;obtain⟨K,Y⟩:=Nc l J F;subst K;cases h with|d _ _ h=>cases h with|agg _ vs f M Q U V=>
    refine⟨by simp[Xe2,M],λi H=>⟨f i,?_,?_,?_⟩⟩
    ·exact Q i (by simpa using H)
    ·simpa[AV.one] using U i (by simpa using H)
    simpa using kI.d _ _ (V i (by simpa using H))
  | val v=>simp only[C2,X21] at F;subst F;exact one h rfl
  | nil=>simp only[C2,X21] at F;subst F;exact one h rfl
  | Cg=>simp only[C2,X21] at F;subst F;exact one h rfl
 | agg l=>simp only[C2,X21] at F;subst F;cases h with|agg _ vs f M Q U V=>exact⟨by simp[Xe2,M],λi H=>⟨f i,Q i H,U i H,V i H⟩⟩
 | ref=>simp only[C2,X21] at F;subst F;exact one h rfl
 | own=>simp only[C2,X21] at F;subst F;exact one h rfl
 | mp=>simp only[C2,X21] at F;subst F;exact one h rfl
 | fn=>simp only[C2,X21] at F;subst F;exact one h rfl
 | _=>simp[C2] at F
def Kq {a:AV}{J:O AV}(h:oA ob a)(F:C2 a=some J) :∀c∈J,oA ob c:=by
 cases a with
 | d x=>
  cases x with
  | agg l=>simp only[C2] at F;obtain⟨K,_⟩:=Nc l J F;subst K;intro c H;obtain⟨x,_,rfl⟩:=Xau.1 H;exact A0 ob x
  | _=>simp only[C2,X21] at F;subst F;intro c H;rw[X11.1 H];exact h
 | agg l=>simp only[C2,X21] at F;subst F;intro c H r M;obtain⟨j,Q,rfl⟩:=Xai H;exact h r (AV.z8 l j Q r M)
 | ref=>simp only[C2,X21] at F;subst F;intro c H;rw[X11.1 H];exact h
 | own=>simp only[C2,X21] at F;subst F;intro c H;rw[X11.1 H];exact h
 | mp=>simp only[C2,X21] at F;subst F;intro c H;rw[X11.1 H];exact h
 | fn=>simp only[C2,X21] at F;subst F;intro c H;rw[X11.1 H];exact h
 | _=>simp[C2] at F
def EF {t:Nat}{d:TypeDesc}(F:P.underlying t=some d)(H:d.isRow=false){b o:Nat}{v:A}(h:cellAt w b o=some v) : (loadVar t ⟨b,o,none⟩).run P w=.ok v w:=by have:w.cell? ⟨b,o,none⟩=some v:=h;simp[loadVar,QN F,H,this]
def KH {t:Nat}{H:TI}(F:Lw P t H)(J:H.kind.Cy=some true){b o:Nat}{vs:O A}(K:vs.length=H.size) (h :∀j v,vs[j]?=some v->cellAt w b (o+j)=some v):(loadVar t ⟨b,o,none⟩).run P w=.ok (.agg vs.toArray) w:=by obtain⟨d,M,Q⟩:=F.kind.row J;exact run_loadVar_mid w b o t vs d h M Q (by rw[F.L4,K])
def Ql {obl:O (C OB)}(hT:xD P T)(m:Mem E w S φ (λr=>obl.getD r none)){t:Nat}{a:AV}{v:A}{K:AV->Prop}(ha:kI S w φ (λr=>obl.getD r none) a v) (hc:oA (λr=>obl.getD r none) a) (h:YS T t a obl K) : ∃af u,K af/\(Xdt t v).run P w=.ok u w/\kI S w φ (λr=>obl.getD r none) af u/\oA (λr=>obl.getD r none) af:=by
 cases a<;>simp only[YS] at h;case ref r off=>
  obtain⟨b,c,Q,rfl⟩:=ha.Tp;rw[Ao] at h;obtain⟨o,ho,h⟩:=h;cases o with
  | row=>simp at h
  | map=>simp at h
  | zj=>simp at h
  | gone=>simp at h
  | box cs=>
   simp only at h;obtain⟨b',c',vs,e,f,g1,g2,g3,g4,g5,g6⟩:=m.obj r _ ho;rw[Q] at g1;simp only[X21,X23] at g1;obtain⟨rfl,rfl⟩:=g1;have H :∀j,j<cs.length->cellAt w b j=some (f j):=λj hj=>by rw[BB g2];exact g5 j hj
   have ae :∀c∈cs,oA (λr=>obl.getD r none) c:=λc hm r' a7=>by obtain⟨j,hj,rfl⟩:=Xai hm;exact m.GJ r _ ho r' (by simpa[OB.refs] using AV.z8 cs j hj r' a7)
   cases F:(T.get t).kind.Cy with
   | none=>simp[F] at h
   | some q=>
    have J:=hT.of (t:=t) (by rw[F];simp);cases q with
    | true=>
     simp only[F,HJ,AI,Ge,HG,Nat.ble_eq] at h;obtain⟨ab,hK⟩:=h;simp only[X14] at ab;let Z:O A:=(Xbu (T.get t).size).map λj=>f (off+j);have a6:((cs.drop off).take (T.get t).size).length=(T.get t).size:=by simp;omega
     refine⟨_,.agg Z.toArray,hK,?_,?_,?_⟩
     ·simp only[Xdt,Xd2,Xb0,Xdd,Xaw];refine KH J F (by simp[Z]) λj u Y=>?_;simp only[Z,Xej,Xb3] at Y;obtain⟨j',a8,rfl⟩:=Y;obtain⟨M,U⟩:=X13.1 a8;simp at M U;subst U;exact H _ (by omega)
     ·refine PE (by rw[a6];simp[Z]) λi hi=>⟨f (off+i),?_,?_,?_⟩
      ·rw[a6] at hi;simp[Z,hi]
      ·simp only[Xc1,Xbx];rw[a6] at hi;exact (g6 (off+i) (by omega)).1
      simp only[Xc1,Xbx];rw[a6] at hi;exact (g6 (off+i) (by omega)).2
     exact JQ λc hm=>ae c (List.mem_of_mem_drop (Xdr hm))
    | false=>
     simp only[F] at h;cases hg:cs[off]? with
     | none=>simp[hg] at h
     | some x=>simp only[hg,BU] at h;obtain⟨M,U⟩:=X13.1 hg;obtain⟨d,Y,hd⟩:=J.kind.plain F;refine⟨x,f off,h,?_,U▸(g6 off M).2,ae x (Xbz hg)⟩;simp only[Xdt,Xd2,Xb0,Xdd,Xaw,EF Y hd (H off M)]
 case DM cs=>
  cases ha with|DM _ b o f hS hn hr=>
   cases F:(T.get t).kind.Cy with
   | none=>simp[F] at h
   | some q=>
    have J:=hT.of (t:=t) (by rw[F];simp);cases q with
    | true=>
     simp only[F,AI,Ge,Nat.ble_eq] at h;obtain⟨ab,hK⟩:=h;let Z:O A:=(Xbu (T.get t).size).map λj=>f j;refine⟨_,.agg Z.toArray,hK,?_,?_,A0 _ _⟩
     ·simp only[Xdt,Xd2,Xb0,Xdd,Xaw];refine KH J F (by simp[Z]) λj u Y=>?_;simp only[Z,Xej,Xb3] at Y;obtain⟨j',a8,rfl⟩:=Y;obtain⟨M,U⟩:=X13.1 a8;simp at M U;subst U;exact (hS _ (by omega)).2
     refine .d _ _ (.agg _ _ f (by simp[Z];omega) (λi hi=>?_) (λi hi=>?_) λi hi=>?_)
     ·simp only[X15] at hi;have:=Xb4 hi (Nat.min_le_left _ _);simp[Z,this]
     ·simp only[Xc1];exact hn i _
     simp only[Xc1];exact hr i _
    | false=>
     simp only[F] at h;cases hg:cs[0]? with
     | none=>simp[hg] at h
     | some x=>simp only[hg] at h;obtain⟨M,U⟩:=X13.1 hg;obtain⟨d,Y,hd⟩:=J.kind.plain F;refine⟨.d x,f 0,h,?_,U▸.d _ _ (hr 0 M),A0 _ _⟩;simp only[Xdt,Xd2,Xb0,Xdd,Xaw,EF Y hd (by simpa using (hS 0 M).2)]
 case Bp r n i k=>
  rw[Ao] at h;obtain⟨o,ho,h⟩:=h;cases o with
  | box cs=>
   simp only at h;cases F:(T.get t).kind.Cy with
   | none=>simp[F] at h
   | some q=>
    cases q with
    | true=>simp[F] at h
    | false=>
     simp only[F,BU] at h;obtain⟨x,hg,h⟩:=h;have J:=hT.of (t:=t) (by rw[F];simp);obtain⟨b',c',vs,e,f,g1,g2,g3,g4,g5,g6⟩:=m.obj r _ ho;cases ha with|Bp _ _ _ _ _ M hb hp=>
     obtain⟨b,c,Q,rfl⟩:=hb cs ho;rw[Q] at g1;simp only[X21,X23] at g1;obtain⟨rfl,rfl⟩:=g1;obtain⟨p1,p2⟩:=X13.1 hg;obtain⟨d,Y,hd⟩:=J.kind.plain F;have H:cellAt w b (k+i)=some (f (k+i)):=by rw[BB g2];exact g5 _ p1
     refine⟨x,f (k+i),h,?_,p2▸(g6 _ p1).2,λr' a7=>?_⟩
     ·simp only[Xdt,Xd2,Xb0,Xdd,Xaw,EF Y hd H]
     rw[<- p2] at a7;exact m.GJ r _ ho r' (by simpa[OB.refs] using AV.z8 cs (k+i) p1 r' a7)
  | map=>simp at h
  | zj=>simp at h
  | gone=>simp at h
  | row e sz es ag=>
   have h:OC T t n i k es K \/∃q m,ag=.lk i k q m/\n=es.length/\i<es.length/\k<sz/\(T.get t).kind.Cy=some false/\K (.own q m):=by
    simp only at h;cases ag with
    | no=>exact .inl h
    | Dd=>exact .inl h
    | lk i' j q m=>
     rcases h with h|⟨M,rfl,rfl,h4,h5,h6,h7⟩
     ·exact .inl h
     exact .inr ⟨q,m,rfl,M,h4,h5,h6,h7⟩
   rcases h with h|⟨q,m',rfl,hn,V,ah,F,hK⟩;rotate_left
   ·cases ha with|Bp _ _ _ _ _ M hb hp=>
    obtain⟨_,U⟩:=M e sz es _ ho;obtain⟨hi,b,c,Q,rfl⟩:=U hn;obtain⟨g0,g1,g2,g3⟩:=m.obj r _ ho;rcases g3 with ⟨f1,_⟩|⟨b',ai,vs,f,f1,f2,f3,f4,f5,f6,f7,f8⟩
    ·rw[Q] at f1;simp at f1
    rw[Q] at f1;simp only[X21,X23] at f1;obtain⟨rfl,rfl⟩:=f1;have J:=hT.of (t:=t) (by rw[F];simp);obtain⟨d,Y,hd⟩:=J.kind.plain F;have H:cellAt w b (c.2+(i*sz+k))=some (f i k):=by rw[BB f2];exact f6 i k V ah
    refine⟨_,f i k,hK,?_,f8.2 i k q m' rfl V ah,λr' a7=>m.GJ r _ ho r' (by simpa[OB.refs,AV.refs] using a7)⟩;simp only[Xdt,Xd2,Xb0,Xdd,Xaw,EF Y hd H]
   obtain⟨hn,x,hx,h⟩:=h;cases ha with|Bp _ _ _ _ _ M hb hp=>
    obtain⟨_,U⟩:=M e sz es ag ho;obtain⟨hi,b,c,Q,rfl⟩:=U hn;obtain⟨g0,g1,g2,g3⟩:=m.obj r _ ho;rcases g3 with ⟨f1,_⟩|⟨b',ai,vs,f,f1,f2,f3,f4,f5,f6,f7,f8⟩
    ·rw[Q] at f1;simp at f1
    rw[Q] at f1;simp only[X21,X23] at f1;obtain⟨rfl,rfl⟩:=f1;have V:i<es.length:=by omega
    have aj:x=es[i]:=by rw[<- hx];simp[V]
    subst aj;have aa:=g1 i V;have H :∀j,j<sz->cellAt w b (c.2+(i*sz+j))=some (f i j):=λj hj=>by rw[BB f2];exact f6 i j V hj
    rw[HJ] at h;cases F:(T.get t).kind.Cy with
    | none=>simp[F] at h
    | some q=>
     have J:=hT.of (t:=t) (by rw[F];simp);cases q with
     | true=>
      simp only[F,AI,Ge,Nat.ble_eq] at h;obtain⟨ab,hK⟩:=h;simp only[X14,aa] at ab;let Z:O A:=(Xbu (T.get t).size).map λj=>f i (k+j);refine⟨_,.agg Z.toArray,hK,?_,?_,A0 _ _⟩
      ·simp only[Xdt,Xd2,Xb0,Xdd,Xaw];refine KH J F (by simp[Z]) λj u Y=>?_;simp only[Z,Xej,Xb3] at Y;obtain⟨j',a8,rfl⟩:=Y;obtain⟨M,U⟩:=X13.1 a8;simp at M U;subst U;rw[Xc5,Xc5];exact H _ (by omega)
      refine .d _ _ (.agg _ _ (λj=>f i (k+j)) (by simp[Z,aa];omega) (λj hj=>?_) (λj hj=>?_) λj hj=>?_)
      ·simp only[X15] at hj;have:=Xb4 hj (Nat.min_le_left _ _);simp[Z,this]
      ·simp only[Xc1,Xbx];exact g2 i V _ _
      simp only[Xc1,Xbx];exact f7 i V _ _
     | false=>
      simp only[F] at h;cases hg:(es[i].cells.drop k)[0]? with
      | none=>simp[hg] at h
      | some y=>
       simp only[hg] at h;obtain⟨M,U⟩:=X13.1 hg;simp[aa] at M;obtain⟨d,Y,hd⟩:=J.kind.plain F;refine⟨.d y,f i k,h,?_,?_,A0 _ _⟩
       ·simp only[Xdt,Xd2,Xb0,Xdd,Xaw,EF Y hd (H k (by omega))]
       simp only[Xbx,Xcy] at U;subst U;exact .d _ _ (f7 i V k _)
def qn (obl:O (C OB))(r:Nat)(x:OB)(h:r<obl.length):(λi=>(obl.set r (some x)).getD i none)=zg (λi=>obl.getD i none) r (some x):=by
 funext i;by_cases F:i=r
 ·subst F;simp[h]
 rw[AO _ _ _ _ F];simp[Xds (Ne.symm F)]
def Ve (m:Mem E w S φ ob){self:Nat}{F:O AV}{v:A}(e:Nat)(H:ob self=none)(V:v.cells.size=F.length) (h :∀i (hi:i<F.length),∃u,v.cells[i]?=some u/\F[i].one=true/\kI S w φ ob F[i] u) (U :∀c∈F,oA ob c) : zP E w S φ ob (.ref self 0) [(self,.box F)] (.pointer (some ⟨w.heap.size,0,none⟩)) (w.alloc (.cells v.cells e)):=by
 obtain⟨Y,Z⟩:=m.alloc self (0,0) (.box F) v.cells e H (λr K=>by
  obtain⟨c,J,Q⟩:=AV.Bs F r (by simpa[OB.refs] using K);exact U c J r Q) (λhk=>by
  refine⟨w.heap.size,(0,0),v.cells,e,λj=>v.cells.getD j Xck,gS _ _ _,heap_alloc_new w _,V,λo ho=>?_,λj M=>?_,λj M=>?_⟩
  ·exact absurd (m.bS _ _ ho) (Xep _)
  ·obtain⟨u,J,_⟩:=h j M;simp[J]
  obtain⟨u,J,Q,h3⟩:=h j M;refine⟨Q,?_⟩;have:=hk.Ke (U _ (Xad M)) h3
  simpa[J] using this)
 refine⟨S,_,Y,Z,.ref self 0 w.heap.size (0,0) (gS _ _ _) (λe' sz es a6 hx=>?_),λr K=>?_⟩
 ·simp[Af] at hx
 simp only[AV.refs,X11] at K;subst K;simp[Af]
def d4 {t:Nat}{F:TI}(h:Lw P t F){i:TypeInfo}{z:A}(V:P.info? t=some i)(Y:i.zero=some z)(S:Sc)(w:B)(φ:Nat->C (Nat×Rp))(ob:Nat->C OB) : z.cells.size=(F.zero.map AV.d).length/\F.zero.length=F.size/\∀j (K:j<(F.zero.map AV.d).length),∃u,z.cells[j]?=some u/\(F.zero.map AV.d)[j].one=true/\kI S w φ ob (F.zero.map AV.d)[j] u:=by
 obtain⟨i',z',M,h2,h3,Q,Z,U,h7⟩:=h.Dg;rw[V] at M;obtain rfl:=X22 M;rw[Y] at Q;obtain rfl:=X22 Q;refine⟨by simp[Z,U],U,λj K=>?_⟩;have J:j<F.zero.length:=by simpa using K
 have H:j<z.cells.size:=by omega
 refine⟨z.cells[j],by simp[H],?_⟩;have:=h7 j J z.cells[j] (by simp[H]);simp only[Xb6];generalize F.zero[j]=x at this;generalize z.cells[j]=u at this;cases x with
 | val v=>obtain⟨rfl,h⟩:=this;exact⟨rfl,.d _ _ (.val _ h)⟩
 | nil=>simp only[JZ] at this;subst this;exact⟨rfl,.d _ _ (.nil _)⟩
 | agg=>simp[JZ] at this
 | Cg=>simp[JZ] at this
def BC {α:Type}(F:O α)(n:Nat)(vs:O α):O α:=F.take n++vs++F.drop (n+vs.length)
def BN {α:Type}(F:O α)(n:Nat)(vs:O α)(h:n+vs.length<=F.length):(BC F n vs).length=F.length:=by simp[BC];omega
def ED {α:Type}(F:O α)(n:Nat)(vs:O α)(h:n+vs.length<=F.length)(j:Nat) : (BC F n vs)[j]?=if n<=j/\j<n+vs.length then vs[j-n]? else F[j]?:=by
 unfold BC;rw[Xb9,List.getElem?_append];simp only[X15,Xem (show n<=F.length by omega)];split
 ·rw[Xa1 (by omega),List.getElem?_take_of_lt (by assumption)]
 rw[List.getElem?_append];split
 ·rw[Xa2 (by omega)]
 rw[Xa1 (by omega),List.getElem?_drop];congr 1;omega
def Kx {t:Nat}{v:A}{b o:Nat}{e:Nat}{F:Array A}(hg:w.heap[b]?=some (.cells F e (0,0)))(J:(P.info? t).map (·.size)=some v.cells.size) (K:o+v.cells.size<=F.size) (M :∀u∈v.cells.toList,u.oneCell'=true) : (Instr.storeAt t (.pointer (some ⟨b,o,none⟩)) v).run P w=.ok () (w.setRow b (BC F.toList o v.cells.toList).toArray):=by
 have:=run_storeCells_at P b o e v.cells.toList 0 F w hg (by simpa using K) M;simp only[Xcy] at this;cases H:P.info? t with
 | none=>simp[H] at J
 | some i=>
  have Q:v.cells.size=i.size:=by simp[H] at J;omega
  simp[Instr.storeAt,Xd2,storeVar,sizeOf,Xdx,H,Q,this,BC]
def IF (w:B)(b:Nat)(F:Array A):(∀k,k≠b->(w.setRow b F).heap[k]?=w.heap[k]?)/\(w.setRow b F).heap.size=w.heap.size/\ ((w.setRow b F).os=w.os/\(w.setRow b F).output=w.output/\(w.setRow b F).tape=w.tape/\w.drawn<=(w.setRow b F).drawn):=
 ⟨λk H=>setRow_other w b k F H,size_setRow w b F,rfl,rfl,rfl,Xak _⟩
def cells_one {v:A}{F:O AV}(K:v.cells.size=F.length)(h :∀i (H:i<F.length),∃u,v.cells[i]?=some u/\F[i].one=true/\kI S w φ ob F[i] u) : ∀u∈v.cells.toList,u.oneCell'=true:=by
 intro u M;obtain⟨i,H,rfl⟩:=Xai M;have J:i<F.length:=by simpa[K] using H
 obtain⟨u,Q,U,V⟩:=h i J;have:u=v.cells.toList[i]:=by
  have:v.cells.toList[i]?=some u:=by simpa using Q
  rw[X12 H] at this;exact (X22 this).symm
 rw[<- this];exact V.one U
def Rn (m:Mem E w S φ ob){t r off:Nat}{H vs:O AV}{v:A}{b:Nat}{c:Rp}(Q:φ r=some (b,c))(Y:ob r=some (.box H))(hi:(P.info? t).map (·.size)=some vs.length) (hs:v.cells.size=vs.length) (h :∀i (hi:i<vs.length),∃u,v.cells[i]?=some u/\vs[i].one=true/\kI S w φ ob vs[i] u) (hc :∀c∈vs,oA ob c) (a8:off+vs.length<=H.length) : ∃w',(Instr.storeAt t (.pointer (some ⟨b,off,none⟩)) v).run P w=.ok () w'/\zP E w S φ ob .dead [(r,.box (BC H off vs))] Xck w':=by
 obtain⟨b',c',F,e,f,g1,g2,g3,g4,g5,g6⟩:=m.obj r _ Y;rw[Q] at g1;simp only[X21,X23] at g1;obtain⟨rfl,rfl⟩:=g1;have zx:off+v.cells.toList.length<=F.toList.length:=by simp;omega
 refine⟨_,Kx g2 (by rw[hi,hs]) (by omega) (cells_one hs h),?_⟩;obtain⟨q1,q2,q3⟩:=IF w b (BC F.toList off v.cells.toList).toArray;have hh:=setRow_heap w b F (BC F.toList off v.cells.toList).toArray e (0,0) g2;have Z :∀K∈(OB.box (BC H off vs)).refs,ob K≠none:=by
  intro K a6;obtain⟨x,M,h2⟩:=AV.Bs _ K (by simpa[OB.refs] using a6);simp only[BC,X20] at M;rcases M with (M|M)|M
  ·obtain⟨j,J,rfl⟩:=Xai (Xdr M);exact m.GJ r _ Y K (by simpa[OB.refs] using AV.z8 H j J K h2)
  ·exact hc x M K h2
  obtain⟨j,J,rfl⟩:=Xai (List.mem_of_mem_drop M);exact m.GJ r _ Y K (by simpa[OB.refs] using AV.z8 H j J K h2)
 have U:(BC H off vs).length=H.length:=BN _ _ _ a8;have:=m.set r _ (.box (BC H off vs)) (w.setRow b (BC F.toList off v.cells.toList).toArray) (φ r) Y (λk hk aa=>q1 k λe=>aa c (by rw[e];exact Q)) (by omega) q3
  (λb' c' o hb hS=>by rw[Q] at hb;simp only[X21,X23] at hb;rw[<- hb.1] at hS;exact absurd hS (g4 o)) (.inl rfl)
  (.inl ⟨gS _ _ _,by simp[Y,Ga],λ_=>⟨H,Y⟩⟩) Z (λhk=>by
   refine⟨b,c,_,e,λj=>(BC F.toList off v.cells.toList).getD j Xck,by rw[gS];exact Q,hh,?_,g4,λj J=>?_,λj J=>?_⟩
   ·simp only[Xci];rw[BN _ _ _ zx,U];simpa using g3
   ·rw[U] at J;have:j<(BC F.toList off v.cells.toList).length:=by rw[BN _ _ _ zx];simp;omega
    simp[this]
   rw[U] at J;have e1:=ED H off vs a8 j;have e2:=ED F.toList off v.cells.toList zx j;have ab:j<(BC H off vs).length:=by rw[U];exact J
   rw[X12 ab] at e1;simp only[Xba,hs] at e2;by_cases V:off<=j/\j<off+vs.length
   ·rw[Xa2 V,X12 (by omega)] at e1;rw[Xa2 V] at e2;obtain⟨u,M,h2,h3⟩:=h (j-off) (by omega);have a7:v.cells.toList[j-off]?=some u:=by simpa using M
    simp only[X21] at e1;rw[e1];refine⟨h2,?_⟩;have:=hk.Ke (hc _ (Xad (h:=by omega))) h3;simp only[Xa8,e2,a7,Xaz];exact this
   rw[Xa1 V,X12 J] at e1;rw[Xa1 V] at e2;simp only[X21] at e1;rw[e1];refine⟨(g6 j J).1,?_⟩;have:=hk.Ke (a:=H[j]) (λK a6=>m.GJ r _ Y K (by simpa[OB.refs] using AV.z8 H j J K a6)) (g6 j J).2;have a7:F.toList[j]?=some (f j):=by simpa using g5 j J
   simp only[Xa8,e2,a7,Xaz]
   exact this)
 have hu:zg φ r (φ r)=φ:=by funext i;by_cases hi:i=r<;>simp[zg,hi]
 rw[hu] at this;exact⟨S,φ,this.1,this.2,.dead _,GT _⟩
def D.Fm {x:D}(h:x.isAgg=false):x.cells=[x]:=by cases x<;>first|rfl|simp[D.isAgg] at h
def zf.cells {x:D}{v:A}(h:zf S w x v):v.cells.size=x.cells.length/\∀i (F:i<x.cells.length),∃u,v.cells[i]?=some u/\x.cells[i].isAgg=false/\zf S w x.cells[i] u:=by
 by_cases H:x.isAgg=true
 ·cases x with
  | agg V=>cases h with|agg _ vs f J K M Q=>exact⟨by simp[Xe2,J,D.cells],λi F=>⟨f i,K i F,M i F,Q i F⟩⟩
  | _=>simp[D.isAgg] at H
 have H:x.isAgg=false:=by simpa using H
 have U:v.cells=#[v]:=by have:=h.one H;cases v<;>first|rfl|simp[Value.oneCell'] at this
 rw[D.Fm H,U];refine⟨rfl,λi F=>⟨v,?_,?_,?_⟩⟩
 ·have:i=0:=by simpa using F
  simp[this]
 ·simpa using H
 simpa using h
def zf.norm {x:D}{v:A}(h:zf S w x v):zf S w x.norm v:=by
 cases h with
 | val v h=>exact .val v h
 | nil sz=>exact .zZ sz _ _
 | zZ sz a F=>exact .zZ sz a F
 | Cg sz U b o F f V Y zx Z M Q=>exact .Cg sz U b o F f V Y zx Z M Q
 | agg K vs f hs hf M Q=>
  refine .agg _ vs f (by simpa using hs) (λi J=>hf i (by simpa using J)) (λi J=>?_) λi J=>?_
  ·have H:i<K.length:=by simpa using J
   have:=M i H;simp only[Xb6];revert this;cases K[i]<;>simp[D.isAgg]
  have H:i<K.length:=by simpa using J
  have:=Q i H;simp only[Xb6];revert this;generalize K[i]=y;generalize f i=u;cases y with
  | nil sz=>intro h;cases h;exact .zZ sz _ _
  | _=>intro h;exact h
def D.DB (x:D):x.norm.cells.length=x.cells.length:=by cases x<;>simp[D.norm,D.cells]
def IP (m:Mem E w S φ ob){t r i k e sz:Nat}{es:O D}{x y:D}{v:A}{b:Nat}{c:Rp}(V:φ r=some (b,c)){fz fz':FZ}(ho:ob r=some (.row e sz es fz))(ab:fz.frozen=false)(au:fz'.frozen=false)(hi:(P.info? t).map (·.size)=some x.cells.length) (ae :∀i' j q n,fz'=.lk i' j q n->i'=i/\j=k/\ob q≠none/\v.cells=#[v]/\kI S w φ ob (.own q n) v) (hx:zf S w x v) (Y:i<es.length) (af:k+x.cells.length<=sz) (hy:y.cells=BC es[i].cells k x.cells) : ∃w',(Instr.storeAt t (.pointer (some ⟨b,c.2+(i*sz+k),none⟩)) v).run P w=.ok () w'/\zP E w S φ ob .dead [(r,.row e sz (es.set i y) fz')] Xck w':=by
 obtain⟨g0,g1,g2,g3⟩:=m.obj r _ ho;rcases g3 with ⟨f1,_⟩|⟨b',ax,F,f,f1,f2,f3,f4,f5,f6,f7,f8⟩
 ·rw[V] at f1;simp at f1
 rw[V] at f1;simp only[X21,X23] at f1;obtain⟨rfl,rfl⟩:=f1;obtain⟨x1,x2⟩:=hx.cells;have ag:(i+1)*sz<=c.1*sz:=X28 _ (by omega);rw[X29] at ag;have h1 :∀u∈v.cells.toList,u.oneCell'=true:=by
  intro u hu;obtain⟨j,J,rfl⟩:=Xai hu;have K:j<x.cells.length:=by simpa[x1] using J
  obtain⟨u,q1,q2,q3⟩:=x2 j K;have:v.cells.toList[j]?=some u:=by simpa using q1
  rw[X12 J] at this;rw[X22 this];exact q3.one q2
 have Q:(c.2+(i*sz+k))+v.cells.toList.length<=F.toList.length:=by simp;omega
 refine⟨_,Kx f2 (by rw[hi,x1]) (by omega) h1,?_⟩;obtain⟨q1,q2,q3⟩:=IF w b (BC F.toList (c.2+(i*sz+k)) v.cells.toList).toArray;have hh:=setRow_heap w b F (BC F.toList (c.2+(i*sz+k)) v.cells.toList).toArray e (0,0) f2;have a8:y.cells.length=sz:=by rw[hy,BN _ _ _ (by rw[g1 i Y];exact af),g1 i Y]
 have aa :∀j (J:j<(es.set i y).length),(es.set i y)[j]=if i=j then y else es[j]'(by simpa using J):=λj J=>by rw[List.getElem_set]
 have al:=ED es[i].cells k x.cells (by rw[g1 i Y];exact af);have:=m.set r _ (.row e sz (es.set i y) fz') (w.setRow b (BC F.toList (c.2+(i*sz+k)) v.cells.toList).toArray) (φ r) ho (λk hk an=>q1 k λe=>an c (by rw[e];exact V)) (by omega) q3
  (λb' c' o hb hS=>by rw[V] at hb;simp only[X21,X23] at hb;rw[<- hb.1] at hS;exact absurd hS (f8.1 o (by simp[ab]))) (.inl rfl)
  (.inl ⟨gS _ _ _,by simp[ho,Ga],λh=>by simp at h⟩) (λr' Z=>by
   cases hq:fz' with
   | no=>simp[OB.refs,hq] at Z
   | Dd=>simp[OB.refs,hq] at Z
   | lk i' j q n=>
    simp only[OB.refs,hq,FZ.Kb,X11] at Z;rw[Z];exact (ae _ _ _ _ hq).2.2.1) (λhk=>by
   have a6 :∀j (J:j<y.cells.length),y.cells[j].isAgg=false/\∃u,(if k<=j/\j<k+x.cells.length then v.cells[j-k]? else some (f i j))=some u/\zf S (w.setRow b (BC F.toList (c.2+(i*sz+k)) v.cells.toList).toArray) y.cells[j] u:=by
    intro j J;have e1:=al j;rw[<- hy,X12 J] at e1;by_cases M:k<=j/\j<k+x.cells.length
    ·rw[Xa2 M] at e1⊢;rw[X12 (by omega)] at e1;obtain⟨u,p1,p2,p3⟩:=x2 (j-k) (by omega);rw[X22 e1];exact⟨p2,u,p1,p3.mono hk.k⟩
    rw[Xa1 M] at e1⊢;rw[X12 (by rw[g1 i Y];omega)] at e1;rw[X22 e1];exact⟨g2 i Y j (by rw[g1 i Y];omega),f i j,rfl,(f7 i Y j (by rw[g1 i Y];omega)).mono hk.k⟩
   refine⟨g0,λj J=>?_,λj J l H=>?_,.inr ⟨b,c,_,λj l=>(BC F.toList (c.2+(i*sz+k)) v.cells.toList).getD (c.2+(j*sz+l)) Xck,by rw[gS];exact V,hh,by simpa using f3,f4,?_,λj l J H=>?_,λj J l H=>?_,λo _=>f8.1 o (by simp[ab]),λi' j' q n hq ay K=>?_⟩⟩
   ·rw[aa j J];split
    ·exact a8
    exact g1 j _
   ·have:=aa j J;simp only[this] at H⊢;split at H
    ·rename_i U;simp only[U,Xet];exact (a6 l H).1
    rename_i U;simp only[U,Xd4];exact g2 j _ l H
   ·simp only[Xci];rw[BN _ _ _ Q];simpa using f5
   ·have K:j<es.length:=by simpa using J
    have:(j+1)*sz<=c.1*sz:=X28 _ (by omega);rw[X29] at this;have ao:c.2+(j*sz+l)<(BC F.toList (c.2+(i*sz+k)) v.cells.toList).length:=by rw[BN _ _ _ Q];simp;omega
    simp[ao]
   ·have K:j<es.length:=by simpa using J
    have ap:=aa j J;have e2:=ED F.toList (c.2+(i*sz+k)) v.cells.toList Q (c.2+(j*sz+l));simp only[ap] at H⊢;simp only[Xa8,e2];by_cases U:i=j
    ·subst U;simp only[Xet] at H⊢;obtain⟨_,u,p1,p2⟩:=a6 l H;simp only[Xba,x1];have a7:(c.2+(i*sz+k)<=c.2+(i*sz+l)/\c.2+(i*sz+l)<c.2+(i*sz+k)+x.cells.length)↔(k<=l/\l<k+x.cells.length):=by omega
     by_cases M:k<=l/\l<k+x.cells.length
     ·rw[Xa2 M] at p1;rw[Xa2 (a7.2 M),show c.2+(i*sz+l)-(c.2+(i*sz+k))=l-k by omega];have:v.cells.toList[l-k]?=some u:=by simpa using p1
      rw[this];exact p2
     rw[Xa1 M] at p1;rw[Xa1 (λh=>M (a7.1 h))];have:F.toList[c.2+(i*sz+l)]?=some (f i l):=by simpa using f6 i l Y (by omega)
     rw[this];rw[X22 p1];exact p2
    simp only[U,Xd4] at H⊢;have aq:l<sz:=by rw[g1 j K] at H;exact H
    have ah:¬ (c.2+(i*sz+k)<=c.2+(j*sz+l)/\c.2+(j*sz+l)<c.2+(i*sz+k)+v.cells.toList.length):=by
     simp only[Xba,x1];rcases Xei i j with h|h
     ·have:(i+1)*sz<=j*sz:=X28 _ h;rw[X29] at this;omega
     have:(j+1)*sz<=i*sz:=X28 _ (by omega);rw[X29] at this;omega
    rw[Xa1 ah];have:F.toList[c.2+(j*sz+l)]?=some (f j l):=by simpa using f6 j l K aq
    rw[this];exact (f7 j K l H).mono hk.k
   obtain⟨rfl,rfl,ar,ai,aj⟩:=ae _ _ _ _ hq;have e2:=ED F.toList (c.2+(i'*sz+j')) v.cells.toList Q (c.2+(i'*sz+j'));rw[Xa2 (by simp[ai]),Nat.sub_self] at e2;have e3:(BC F.toList (c.2+(i'*sz+j')) v.cells.toList).getD (c.2+(i'*sz+j')) Xck=v:=by rw[Xa8,e2,ai];rfl
   simp only[e3]
   exact hk.Ke (λq' ak=>by simp only[AV.refs,X11] at ak;rw[ak];exact ar) aj)
 have hu:zg φ r (φ r)=φ:=by funext i;by_cases hi:i=r<;>simp[zg,hi]
 rw[hu] at this;exact⟨S,φ,this.1,this.2,.dead _,GT _⟩
def Mem.NO (m:Mem E w S φ ob)(r self e sz l:Nat)(es zs:O D)(p:C (Nat×Rp))(h0:ob r=some (.row e sz es .no))(hs:ob self=none)(hl:l+zs.length<=es.length)(hz :∀i (V:i<zs.length),zs[i]=es[l+i]'(by omega)) (hp:(p=none/\zs=[]) \/∃b c Q,φ r=some (b,c)/\p=some (b,(Q,c.2+l*sz))/\zs.length<=Q/\l+Q<=c.1) : Mem E w S (zg (zg φ r none) self p) (zg (zg ob r (some .gone)) self (some (.row e sz zs .no)))/\Kept w S φ ob w S (zg (zg φ r none) self p) (zg (zg ob r (some .gone)) self (some (.row e sz zs .no))):=by
 have a6:r≠self:=λhe=>by rw[he,hs] at h0;simp at h0
 have a7 :∀F,ob F≠none->F≠self:=λF h e=>h (e▸hs);have Ow :∀F,F≠r->F≠self->zg (zg φ r none) self p F=φ F/\zg (zg ob r (some .gone)) self (some (.row e sz zs .no)) F=ob F:=λF M H=>by rw[AO _ _ _ _ H,AO _ _ _ _ M,AO _ _ _ _ H,AO _ _ _ _ M];exact⟨rfl,rfl⟩
 have U:zg (zg ob r (some .gone)) self (some (.row e sz zs .no)) r=some .gone:=by rw[AO _ _ _ _ a6,gS]
 have a8:zg (zg φ r none) self p r=none:=by rw[AO _ _ _ _ a6,gS]
 have hk:Kept w S φ ob w S (zg (zg φ r none) self p) (zg (zg ob r (some .gone)) self (some (.row e sz zs .no))):=by
  refine⟨λb o h=>⟨h,rfl⟩,λF h=>?_,λF h=>?_⟩
  ·by_cases hh:F=r
   ·subst hh;exact .inr (.inr ⟨⟨_,_,_,_,h0⟩,by rw[U];rfl,λcs hx=>by rw[U] at hx;simp at hx⟩)
   obtain⟨e1,e2⟩:=Ow F hh (a7 F h);exact .inl ⟨e1,by rw[e2],λh=>by rwa [e2] at h⟩
  by_cases hh:F=r
  ·rw[hh,U];simp
  rw[(Ow F hh (a7 F h)).2];exact h
 obtain⟨g0,g1,g2,g3⟩:=m.obj r _ h0;have Y :∀{b:Nat} {x:Rp},p=some (b,x)->∃c,φ r=some (b,c):=by
  intro b x h;rcases hp with ⟨H,_⟩|⟨b',c,Q,M,H,_⟩
  ·rw[H] at h;simp at h
  rw[H] at h;simp only[X21,X23] at h;exact⟨c,h.1▸M⟩
 have pre :∀{F:Nat} {x:Nat×Rp},zg (zg ob r (some .gone)) self (some (.row e sz zs .no)) F≠none->zg (zg φ r none) self p F=some x->(F=self/\p=some x)\/(F≠self/\F≠r/\ob F≠none/\φ F=some x):=by
  intro F x M H;by_cases J:F=self
  ·subst J;rw[gS] at H;exact .inl ⟨rfl,H⟩
  by_cases K:F=r
  ·subst K;rw[a8] at H;simp at H
  obtain⟨e1,e2⟩:=Ow F K J;exact .inr ⟨J,K,by rwa [e2] at M,by rwa [e1] at H⟩
 have Z:ob r≠none:=by rw[h0];simp
 refine⟨⟨?_,?_,?_,m.sS,m.kS,m.bS,m.nS,m.fr,m.sz,?_,m.os⟩,hk⟩
 ·intro F o h;by_cases J:F=self
  ·subst J;simp only[gS,X21] at h;subst h
   refine⟨g0,λi V=>by rw[hz i V];exact g1 _ _,λi V j hj=>by
    have:=hz i V;simp only[this] at hj⊢
    exact g2 _ _ j hj,?_⟩
   rcases g3 with ⟨f1,f2⟩|⟨b,aa,vs,f,f1,f2,f3,f4,f5,f6,f7,f8⟩
   ·rcases hp with ⟨H,h3⟩|⟨b',c,Q,M,_⟩
    ·exact .inl ⟨by rw[gS];exact H,h3⟩
    rw[f1] at M;simp at M
   rcases hp with ⟨M,H⟩|⟨b',c,Q,M,H,h3,h4⟩
   ·exact .inl ⟨by rw[gS];exact M,H⟩
   rw[f1] at M;simp only[X21,X23] at M;obtain⟨rfl,rfl⟩:=M;have ab:(l+Q)*sz<=aa.1*sz:=X28 _ h4;rw[X29] at ab;refine .inr ⟨b,(Q,aa.2+l*sz),vs,λi j=>f (l+i) j,by rw[gS];exact H,f2,h3,by simp only;omega,by simp only;omega,λi j V hj=>?_,λi V j hj=>?_,λo _=>f8.1 o (by simp),λ_ _ _ _ h=>nomatch h⟩
   ·have:=f6 (l+i) j (by omega) hj;rw[X29] at this;simp only;rw[<- this];congr 1;omega
   have:=hz i V;simp only[this] at hj⊢;exact f7 (l+i) (by omega) j hj
  by_cases K:F=r
  ·subst K;rw[U] at h;obtain rfl:=X22 h;trivial
  obtain⟨e1,e2⟩:=Ow F K J;rw[e2] at h;exact (m.obj F o h).zV hk e1 (λb c hb=>⟨rfl,λ_ h=>h⟩) (m.GJ F o h)
 ·intro r1 r2 b c Q M H k1 k2;rcases pre M k1 with ⟨rfl,a1⟩|⟨a1,a2,a3,a4⟩<;>rcases pre H k2 with ⟨rfl,b1⟩|⟨b1,b2,b3,b4⟩
  ·rfl
  ·obtain⟨c0,a1⟩:=Y a1;exact absurd (m.inj r2 r b Q c0 b3 Z b4 a1) b2
  ·obtain⟨c0,b1⟩:=Y b1;exact absurd (m.inj r1 r b c c0 a3 Z a4 b1) a2
  exact m.inj r1 r2 b c Q a3 b3 a4 b4
 ·intro F o h ae hm;by_cases J:F=self
  ·subst J;simp only[gS,X21] at h;subst h;simp[OB.refs] at hm
  by_cases K:F=r
  ·subst K;rw[U] at h;obtain rfl:=X22 h;simp[OB.refs] at hm
  rw[(Ow F K J).2] at h;exact hk.c _ (m.GJ F o h ae hm)
 intro F b c h g;rcases pre h g with ⟨rfl,a1⟩|⟨a1,a2,a3,a4⟩
 ·obtain⟨c0,a1⟩:=Y a1;exact m.ow r b c0 Z a1
 exact m.ow F b c a3 a4
def z7 (ob ob':Nat->C OB):Prop:=∀r,ob' r=ob r \/∃e sz F f,ob r=some (.row e sz F f)/\ob' r=some (.row e sz F .Dd)
def z7.refl (ob:Nat->C OB):z7 ob ob:=λ_=>.inl rfl
def z7.row {ob ob':Nat->C OB}(h:z7 ob ob'){r e sz:Nat}{es:O D}{f:FZ}(H:ob r=some (.row e sz es f)) :∃J,ob' r=some (.row e sz es J):=by
 rcases h r with F|⟨U,K,M,J,F,Q⟩
 ·exact⟨f,F.trans H⟩
 rw[H] at F;simp only[X21,OB.row.injEq] at F;obtain⟨rfl,rfl,rfl,rfl⟩:=F;exact⟨.Dd,Q⟩
def z7.zg {ob ob':Nat->C OB}(h:z7 ob ob'){r e sz:Nat}{es:O D}{f:FZ}(J:ob r=some (.row e sz es f)):z7 ob (Go.AX.zg ob' r (some (.row e sz es .Dd))):=by
 intro F;by_cases H:F=r
 ·subst H;rw[gS];exact .inr ⟨e,sz,es,f,J,rfl⟩
 rw[AO _ _ _ _ H];exact h F
def Xj (obl:O (C OB))(wr:W):Prop:=∀r o,(r,o)∈wr->∃e sz F f,obl.getD r none=some (.row e sz F f)/\o=.row e sz F .Dd
def Di {obl:O (C OB)}(m:Mem E w S φ ob)(M:z7 (λr=>obl.getD r none) ob){a:AV}{v:A}{K:D->W->Prop}(ha:kI S w φ ob a v)(h:cW obl a K) : ∃x wr S',K x wr/\Mem E w S' φ (Af ob wr)/\Kept w S φ ob w S' φ (Af ob wr)/\zf S' w x v/\z7 (λr=>obl.getD r none) (Af ob wr)/\Xj obl wr:=by
 have own :∀{S:Sc} {ob:Nat->C OB} (_:Mem E w S φ ob) (_:z7 (λr=>obl.getD r none) ob) {r n:Nat} {v:A} {K:OB->Prop} (_:kI S w φ ob (.own r n) v) (_:Cc obl r K),
   ∃o,K o/\∀e sz es f,o=.row e sz es f->n=es.length->∃S',Mem E w S' φ (zg ob r (some (.row e sz es .Dd)))/\Kept w S φ ob w S' φ (zg ob r (some (.row e sz es .Dd)))/\zf S' w (.Cg sz es) v/\
    z7 (λr=>obl.getD r none) (zg ob r (some (.row e sz es .Dd)))/\Xj obl [(r,.row e sz es .Dd)]:=by
  intro S ob m M r n v K ha h;rw[Ao] at h;obtain⟨o,ho,J⟩:=h;refine⟨o,J,λe sz es f ai hn=>?_⟩;subst ai;obtain⟨f',ae⟩:=M.row ho;obtain⟨S',m',k',hd⟩:=m.freeze r e sz es f' ae;refine⟨S',m',k',hd v ?_,M.zg ho,λr' o' U=>?_⟩
  ·cases ha with|own _ _ _ k c a0 hv hk h1 hb=>have:=(h1 e sz es f' ae).2 hn;rwa [<- hn]
  simp only[X11,X23] at U;obtain⟨rfl,rfl⟩:=U;exact⟨e,sz,es,f,ho,rfl⟩
 cases a<;>simp only[cW] at h;case d x=>rw[FU] at h;cases ha with|d _ _ ha=>exact⟨_,[],S,h,m,.refl w S φ ob,ha.norm,M,λ_ _ U=>by simp at U⟩
 case own r n=>
  obtain⟨o,J,hh⟩:=own m M ha h;cases o with
  | box=>simp at J
  | map=>simp at J
  | zj=>simp at J
  | gone=>simp at J
  | row e sz es f=>simp only at J;obtain⟨S',h1,h2,h3,h4,h5⟩:=hh e sz es f rfl J.1;exact⟨_,_,S',J.2,h1,h2,h3,h4,h5⟩
 case agg V=>
  cases ha with|agg _ vs f hs hf hn hr=>
  have key :∀(V:O AV) (F:Nat) (S:Sc) (ob:Nat->C OB) (_:Mem E w S φ ob) (_:z7 (λr=>obl.getD r none) ob) (K:O D->W->Prop)
    (_ :∀i (H:i<V.length),kI S w φ ob V[i] (f (F+i))) (_:cW.toDs obl V K),
    ∃l wr S',K l wr/\l.length=V.length/\Mem E w S' φ (Af ob wr)/\Kept w S φ ob w S' φ (Af ob wr)/\(∀i (H:i<l.length),l[i].isAgg=false/\zf S' w l[i] (f (F+i)))/\
     z7 (λr=>obl.getD r none) (Af ob wr)/\Xj obl wr:=by
   intro V;induction V with
   | nil=>intro F S ob m M K _ h;exact⟨[],[],S,h,rfl,m,.refl w S φ ob,λi H=>by simp at H,M,λ_ _ U=>by simp at U⟩
   | cons c V ih=>
    intro F S ob m M K hr h;have h0:=hr 0 (by simp);simp only[Xbg,Xcy] at h0;have Z :∀i (H:i<V.length),kI S w φ ob V[i] (f (F+1+i)):=λi H=>by have:=hr (i+1) (by simpa using H);simpa[Xc5,Xdj 1 i] using this
    have fin :∀(x:D) (l:O D) (S':Sc),x.isAgg=false->zf S' w x (f F)->(∀i (H:i<l.length),l[i].isAgg=false/\zf S' w l[i] (f (F+1+i)))->
      ∀i (H:i<(x::l).length),(x::l)[i].isAgg=false/\zf S' w (x::l)[i] (f (F+i)):=by
     intro x l S' h1 h2 h3 i H;cases i with
     | zero=>exact⟨h1,h2⟩
     | succ i=>have:=h3 i (by simpa using H);simpa[Xc5,Xdj 1 i] using this
    cases c<;>simp only[cW.toDs] at h;case d x=>
     cases h0 with|d _ _ h0=>
     have ab:=h0.norm;cases x with
     | agg l=>simp at h
     | val u=>simp only at h;obtain⟨l,wr,S',a1,a2,a3,Q,Y,a6,a7⟩:=ih (F+1) S ob m M _ Z h;exact⟨_,wr,S',a1,by simp[a2],a3,Q,fin _ _ _ rfl (ab.mono Q.k) Y,a6,a7⟩
     | nil u=>simp only at h;obtain⟨l,wr,S',a1,a2,a3,Q,Y,a6,a7⟩:=ih (F+1) S ob m M _ Z h;exact⟨_,wr,S',a1,by simp[a2],a3,Q,fin _ _ _ rfl (ab.mono Q.k) Y,a6,a7⟩
     | Cg u v=>simp only at h;obtain⟨l,wr,S',a1,a2,a3,Q,Y,a6,a7⟩:=ih (F+1) S ob m M _ Z h;exact⟨_,wr,S',a1,by simp[a2],a3,Q,fin _ _ _ rfl (ab.mono Q.k) Y,a6,a7⟩
    case fn g af=>
     cases af with
     | cons=>simp at h
     | nil=>
      simp only at h;generalize hv:f F=vf at h0;cases h0 with|fn _ _ vs g' ao _ _=>
      have aj:vs=#[]:=by cases vs;simp_all
      subst aj;obtain⟨l,wr,S',a1,a2,a3,Q,Y,a6,a7⟩:=ih (F+1) S ob m M _ Z h;exact⟨_,wr,S',a1,by simp[a2],a3,Q,fin _ _ _ rfl (by rw[hv];exact .val _ rfl) Y,a6,a7⟩
    case own r n=>
     obtain⟨o,J,hh⟩:=own m M h0 h;cases o with
     | box=>simp at J
     | map=>simp at J
     | zj=>simp at J
     | gone=>simp at J
     | row e sz es fz=>
      simp only at J;obtain⟨S1,b1,b2,b3,b4,b5⟩:=hh e sz es fz rfl J.1;have ak :∀i (H:i<V.length),kI S1 w φ (zg ob r (some (.row e sz es .Dd))) V[i] (f (F+1+i)):=λi H=>
       (Z i H).mono b2.k λr' an=>by
        by_cases ag:ob r'=none
        ·by_cases ah:r'=r
         ·subst ah;rw[Ao] at h;obtain⟨o',al,a8⟩:=h;have:=M.row (r:=r') (e:=e) (sz:=sz) (es:=es) (f:=fz);cases o' with
          | box=>simp at a8
          | map=>simp at a8
          | zj=>simp at a8
          | gone=>simp at a8
          | row e' ap aq f'=>obtain⟨ar,aa⟩:=M.row al;rw[ag] at aa;simp at aa
         refine .inl ⟨rfl,?_,?_⟩<;>rw[AO _ _ _ _ ah];exact id
        exact b2.r r' ag
      obtain⟨l,wr,S',a1,a2,a3,Q,Y,a6,a7⟩:=ih (F+1) S1 _ b1 b4 _ ak J.2;refine⟨_,(r,.row e sz es .Dd)::wr,S',a1,by simp[a2],a3,b2.trans Q,fin _ _ _ rfl (b3.mono Q.k) Y,a6,λr' o' U=>?_⟩;simp only[Xa7] at U;rcases U with U|U
      ·exact b5 r' o' (by simp[U])
      exact a7 r' o' U
  obtain⟨l,wr,S',a1,a2,a3,Q,Y,a6,a7⟩:=key V 0 S ob m M _ (λi H=>by simpa using hr i H) h;refine⟨_,wr,S',a1,a3,Q,.agg l vs f (by omega) (λi H=>hf i (by omega)) (λi H=>(Y i H).1) (λi H=>by simpa using (Y i H).2),a6,a7⟩
end
end Go.AX
end
