/-
  Texts of one proof, packed.
-/
import Derived.Test.YtppcmaidcgimpaaGreatDoorS1
import Derived.Great.BuildSlice
import Derived.Laws.IdiomCopy
import Derived.Laws.StructEq
set_option linter.all false
set_option maxRecDepth 100000
set_option maxHeartbeats 4000000
open List renaming length_map→X6,length_append→X10,mem_singleton→X13,getElem?_eq_getElem→X14,getElem?_eq_some_iff→X15,length_drop→X16,length_take→X17,length_replicate→X19,length_set→X20,mem_append→X22
open Option.some renaming injEq→X23,inj→X24
open Prod.mk renaming injEq→X25
open Nat renaming mul_le_mul_right→X30,add_mul→X31
open List renaming range→Xb2
open Go renaming run_underlying→Wo,Operand→Xau,execOp→Xbi,undef→Xbn,Program→Xcn,heap_alloc_new→Xcq,typeInfo→Xde
open Go.Result renaming andThen_ok→Xa5
open Go.Sem renaming run_bind→Xad,run_pure→Xc5
open Go.Instr renaming sureAddr→Xbw,loadAt→Xch
open Go.Value renaming cells→Xdj
section
namespace Go.AX
def qB (P:Xcn)(t:Nat):TK->Prop
 | .bool=>P.underlying t=some .bool
 | .int k=>P.underlying t=some (.int k)
 | .str=>P.underlying t=some .string
 | .ptr=>∃e,P.underlying t=some (.pointer e)
 | .fn=>∃a b c,P.underlying t=some (.func a b c)
 | .slice e=>P.underlying t=some (.slice e)
 | .arr n e=>P.underlying t=some (.array n e)
 | .map k e=>P.underlying t=some (.map k e)
 | .struct fs=>P.stoodInHeld t=false/\P.eqGuardType P.depth t=false/\∃F:Array Field,P.underlying t=some (.struct F)/\
   F.toList.map (fun f => (f.offset, (P.info? f.type).map (·.size), f.type)) = fs.map (fun x => (x.1, some x.2.1, x.2.2)) ∧ ∀ f ∈ F.toList, f.name ≠ "_"
 | .other=>True
def Ir:D->A->Prop
 | .val v,F=>v=F/\v.oneCell'=true
 | .nil _,F=>F=.slice none 0 0
 | _,_=>False
structure sK (P:Program)(t:Nat)(ti:TI):Prop where
 rz :∃i z,P.info? t=some i/\i.size=ti.size/\i.bytes=ti.bytes/\i.zero=some z/\z.cells.size=ti.size/\ti.zero.length=ti.size/\
  ∀j (hj:j<ti.zero.length) v,z.cells[j]?=some v->Ir ti.zero[j] v
 kind:qB P t ti.kind
 vC :∀i z,P.info? t=some i->i.zero=some z->(ti.kind.re=some true->∃cs,z=.agg cs)/\(ti.kind.re=some false->∀cs,z≠.agg cs)
def py (P:Xcn)(T:TT):Prop:=∀t,(T.get t).kind.re=none\/sK P t (T.get t)
section
variable {P:Program} {T:TT}
def py.of (h:py P T){t:Nat}(F:(T.get t).kind.re≠none):sK P t (T.get t):=(h t).resolve_left F
def sK.sN {t:Nat}{F:TI}(h:sK P t F):(P.info? t).map (·.size)=some F.size:=by obtain⟨i,z,H,J,_⟩:=h.rz;simp[H,J]
def qB.plain {t:Nat}{k:TK}(h:qB P t k)(F:k.re=some false) :∃d,P.underlying t=some d/\d.isRow=false:=by
 cases k<;>simp[TK.re] at F<;>simp only[qB] at h;case ptr=>obtain⟨e,h⟩:=h;exact⟨_,h,rfl⟩
 case fn=>obtain⟨a,b,c,h⟩:=h;exact⟨_,h,rfl⟩
 all_goals exact⟨_,h,rfl⟩
def qB.row {t:Nat}{k:TK}(h:qB P t k)(H:k.re=some true) :∃d,P.underlying t=some d/\d.isRow=true:=by
 cases k<;>simp[TK.re] at H<;>simp only[qB] at h;case arr=>exact⟨_,h,rfl⟩
 case struct=>obtain⟨_,_,F,h,_⟩:=h;exact⟨_,h,rfl⟩
def PD {t:Nat}{d:TypeDesc}(h:P.underlying t=some d)(w:B):(isAgg t).run P w=.ok d.isRow w:=by unfold isAgg;rw[Xad,Wo h w];cases d<;>rfl
def Ak (ob:Nat->O OB):W->Nat->O OB
 | []=>ob
 | (r,x)::w=>Ak (qn ob r (some x)) w
def qc (P:Xcn)(o:z)(ρ:Xau->A)(w:B)(Q:A->B->Prop):Prop:=
 match (Xbi ρ o).run P w with
 | .ok (.value v) w'=>Q v w'
 | .ok .skip w'=>Q Xbn w'
 | .ok (.enter f args) w'=>Calls P f args w' λe F=>∃v,e=.returned v/\Q v F
 | _=>False
def qH (E:Env)(w:B)(S:Sc)(φ:Nat->O (Nat×Rp))(ob:Nat->O OB)(out:AV)(wr:W)(v:A)(w':B):Prop:=
 ∃S' φ',Mem E w' S' φ' (Ak ob wr)/\Kept w S φ ob w' S' φ' (Ak ob wr)/\gM S' w' φ' (Ak ob wr) out v/\gN (Ak ob wr) out
variable {E:Env} {w:B} {S:Sc} {φ:Nat->O (Nat×Rp)} {ob:Nat->O OB}
def qH.pure (m:Mem E w S φ ob){out:AV}{v:A}(h:gM S w φ ob out v)(F:gN ob out):qH E w S φ ob out [] v w:=
 ⟨S,φ,m,.refl w S φ ob,h,F⟩
def A5 (ob:Nat->O OB)(x:D):gN ob (.d x):=λr F=>by simp[AV.refs] at F
def FT (ob:Nat->O OB):gN ob .dead:=λr F=>by simp[AV.refs] at F
def gM.int {k:IntKind}{n:Int}{v:A}(h:gM S w φ ob (.d (.val (.int k n))) v):v=.int k n:=by cases h with|d _ _ h=>cases h with|val _ _=>rfl
def gM.bool {b:C}{v:A}(h:gM S w φ ob (.d (.val (.bool b))) v):v=.bool b:=by cases h with|d _ _ h=>cases h with|val _ _=>rfl
def gM.str {s:ByteArray}{v:A}(h:gM S w φ ob (.d (.val (.string s))) v):v=.string s:=by cases h with|d _ _ h=>cases h with|val _ _=>rfl
def gM.val {x v:A}(h:gM S w φ ob (.d (.val x)) v):v=x:=by cases h with|d _ _ h=>cases h with|val _ _=>rfl
def gM.um {r off:Nat}{v:A}(h:gM S w φ ob (.ref r off) v) :∃b c,φ r=some (b,c)/\v=.pointer (some ⟨b,off,none⟩):=by cases h with|ref _ _ b c h F=>exact⟨b,c,h,rfl⟩
def EC (l:I (O OB))(r:Nat)(o:OB):l.getD r none=some o->r<l.length:=by
 intro h;rcases Nat.lt_or_ge r l.length with F|F
 ·exact F
 simp[F] at h
def Addr.qV (b o n:Nat):(⟨b,o,none⟩:Addr).add n=⟨b,o+n,none⟩:=Addr.add_mid b o n
def AV.qj :∀(F:I AV) (j:Nat) (H:j<F.length) (r:Nat),r∈F[j].refs->r∈AV.refs.refsL F
 | [],j,H,_,_=>by simp at H
 | c::F,0,_,r,hm=>by simp only[AV.refs.refsL,X22];exact .inl hm
 | c::F,j+1,H,r,hm=>by simp only[AV.refs.refsL,X22];exact .inr (AV.qj F j (by simpa using H) r hm)
def AV.qO :∀(F:I AV) (r:Nat),r∈AV.refs.refsL F->∃c∈F,r∈c.refs
 | [],r,h=>by simp[AV.refs.refsL] at h
 | c::F,r,h=>by
  simp only[AV.refs.refsL,X22] at h;rcases h with h|h
  ·exact⟨c,by simp,h⟩
  obtain⟨H,J,K⟩:=AV.qO F r h;exact⟨H,by simp[J],K⟩
def OR {H:I AV}{J:Array A}(Q:J.size=H.length)(h :∀i (F:i<H.length),∃v,J[i]?=some v/\H[i].one=true/\gM S w φ ob H[i] v) : gM S w φ ob (aH H) (.agg J):=by
 have U :∀i (F:i<H.length),J[i]?=some (J.getD i Xbn):=λi F=>by obtain⟨v,K,_⟩:=h i F;simp[K]
 have V :∀i (F:i<H.length),gM S w φ ob H[i] (J.getD i Xbn):=λi F=>by obtain⟨v,K,_,Y⟩:=h i F;simpa[K] using Y
 unfold aH;cases Z:TY H with
 | none=>exact .agg H J _ Q U (λi F=>by obtain⟨v,_,M,_⟩:=h i F;exact M) V
 | some l=>
  have:=Zn H l Z;subst this;refine .d _ _ (.agg l J _ (by simpa using Q) (λi F=>U i (by simpa using F)) (λi F=>?_) λi F=>?_)
  ·obtain⟨v,_,M,_⟩:=h i (by simpa using F);simpa[AV.one] using M
  have:=V i (by simpa using F);simp only[Xam] at this;cases this with|d _ _ h=>exact h
def If {F:I AV}(h :∀c∈F,gN ob c):gN ob (aH F):=by
 unfold aH;cases M:TY F with
 | some l=>exact A5 ob _
 | none=>intro r H;obtain⟨c,J,K⟩:=AV.qO F r (by simpa[AV.refs] using H);exact h c J r K
def PS {a:AV}{v:A}{J:I AV}(h:gM S w φ ob a v)(F:CW a=some J) : v.cells.size=J.length/\∀i (H:i<J.length),∃u,v.cells[i]?=some u/\J[i].one=true/\gM S w φ ob J[i] u:=by
 have one :∀{a:AV} {v:A},gM S w φ ob a v->a.one=true->v.cells.size=[a].length/\∀i (H:i<[a].length),∃u,v.cells[i]?=some u/\[a][i].one=true/\gM S w φ ob [a][i] u:=by
  intro a v h K;have Y:=h.one K;have Z:v.cells=#[v]:=by cases v<;>first|rfl|simp[Value.oneCell'] at Y
  refine⟨by simp[Z],λi H=>?_⟩;have:i=0:=by simpa using H
  subst this;exact⟨v,by simp[Z],K,h⟩
 cases a with
 | d x=>
  cases x with
  | agg l=>
   simp only[CW] at F;obtain⟨K,Y⟩:=M6 l J F;subst K;cases h with|d _ _ h=>cases h with|agg _ vs f M Q U V=>
    refine⟨by simp[Xdj,M],λi H=>⟨f i,?_,?_,?_⟩⟩
    ·exact Q i (by simpa using H)
    ·simpa[AV.one] using U i (by simpa using H)
    simpa using gM.d _ _ (V i (by simpa using H))
  | val v=>simp only[CW,X23] at F;subst F;exact one h rfl
  | nil=>simp only[CW,X23] at F;subst F;exact one h rfl
  | qY=>simp only[CW,X23] at F;subst F;exact one h rfl
 | agg l=>simp only[CW,X23] at F;subst F;cases h with|agg _ vs f M Q U V=>exact⟨by simp[Xdj,M],λi H=>⟨f i,Q i H,U i H,V i H⟩⟩
 | ref=>simp only[CW,X23] at F;subst F;exact one h rfl
 | own=>simp only[CW,X23] at F;subst F;exact one h rfl
 | mp=>simp only[CW,X23] at F;subst F;exact one h rfl
 | fn=>simp only[CW,X23] at F;subst F;exact one h rfl
 | _=>simp[CW] at F
def J0 {a:AV}{J:I AV}(h:gN ob a)(F:CW a=some J) :∀c∈J,gN ob c:=by
 cases a with
 | d x=>
  cases x with
  | agg l=>simp only[CW] at F;obtain⟨K,_⟩:=M6 l J F;subst K;intro c H;obtain⟨x,_,rfl⟩:=Xaz.1 H;exact A5 ob x
  | _=>simp only[CW,X23] at F;subst F;intro c H;rw[X13.1 H];exact h
 | agg l=>simp only[CW,X23] at F;subst F;intro c H r M;obtain⟨j,Q,rfl⟩:=Wr H;exact h r (AV.qj l j Q r M)
 | ref=>simp only[CW,X23] at F;subst F;intro c H;rw[X13.1 H];exact h
 | own=>simp only[CW,X23] at F;subst F;intro c H;rw[X13.1 H];exact h
 | mp=>simp only[CW,X23] at F;subst F;intro c H;rw[X13.1 H];exact h
 | fn=>simp only[CW,X23] at F;subst F;intro c H;rw[X13.1 H];exact h
 | _=>simp[CW] at F
def Dz {t:Nat}{d:TypeDesc}(F:P.underlying t=some d)(H:d.isRow=false){b o:Nat}{v:A}(h:cellAt w b o=some v) : (loadVar t ⟨b,o,none⟩).run P w=.ok v w:=by have:w.cell? ⟨b,o,none⟩=some v:=h;simp[loadVar,PD F,H,this]
def Jj {t:Nat}{J:TI}(F:sK P t J)(K:J.kind.re=some true){b o:Nat}{H:I A}(M:H.length=J.size) (h :∀j v,H[j]?=some v->cellAt w b (o+j)=some v):(loadVar t ⟨b,o,none⟩).run P w=.ok (.agg H.toArray) w:=by obtain⟨d,Q,U⟩:=F.kind.row K;exact run_loadVar_mid w b o t H d h Q U (by rw[F.sN,M])
def PY {obl:I (O OB)}(hT:py P T)(m:Mem E w S φ (λr=>obl.getD r none)){t:Nat}{a:AV}{v:A}{K:AV->Prop}(ha:gM S w φ (λr=>obl.getD r none) a v) (hc:gN (λr=>obl.getD r none) a) (h:WG T t a obl K) : ∃out u,K out/\(Xch t v).run P w=.ok u w/\gM S w φ (λr=>obl.getD r none) out u/\gN (λr=>obl.getD r none) out:=by
 cases a<;>simp only[WG] at h;case ref r off=>
  obtain⟨b,c,Q,rfl⟩:=ha.um;rw[Ax] at h;obtain⟨o,ho,h⟩:=h;cases o with
  | row=>simp at h
  | map=>simp at h
  | qu=>simp at h
  | gone=>simp at h
  | box cs=>
   simp only at h;obtain⟨b',c',vs,e,f,g1,g2,g3,g4,g5,g6⟩:=m.obj r _ ho;rw[Q] at g1;simp only[X23,X25] at g1;obtain⟨rfl,rfl⟩:=g1;have H :∀j,j<cs.length->cellAt w b j=some (f j):=λj hj=>by rw[A1 g2];exact g5 j hj
   have ab :∀c∈cs,gN (λr=>obl.getD r none) c:=λc hm r' a6=>by obtain⟨j,hj,rfl⟩:=Wr hm;exact m.s6 r _ ho r' (by simpa[OB.refs] using AV.qj cs j hj r' a6)
   cases F:(T.get t).kind.re with
   | none=>simp[F] at h
   | some q=>
    have J:=hT.of (t:=t) (by rw[F];simp);cases q with
    | true=>
     simp only[F,GV,AD,Fo,GT,Nat.ble_eq] at h;obtain⟨aa,hK⟩:=h;simp only[X16] at aa;let Z:I A:=(Xb2 (T.get t).size).map λj=>f (off+j);have a1:((cs.drop off).take (T.get t).size).length=(T.get t).size:=by simp;omega
     refine⟨_,.agg Z.toArray,hK,?_,?_,?_⟩
     ·simp only[Xch,Xbw,Xad,Xc5,Xa5];refine Jj J F (by simp[Z]) λj u Y=>?_;simp only[Z,Xd8,Xc7] at Y;obtain⟨j',a7,rfl⟩:=Y;obtain⟨M,U⟩:=X15.1 a7;simp at M U;subst U;exact H _ (by omega)
     ·refine OR (by rw[a1];simp[Z]) λi hi=>⟨f (off+i),?_,?_,?_⟩
      ·rw[a1] at hi;simp[Z,hi]
      ·simp only[Xb7,Xb8];rw[a1] at hi;exact (g6 (off+i) (by omega)).1
      simp only[Xb7,Xb8];rw[a1] at hi;exact (g6 (off+i) (by omega)).2
     exact If λc hm=>ab c (List.mem_of_mem_drop (List.mem_of_mem_take hm))
    | false=>
     simp only[F] at h;cases hg:cs[off]? with
     | none=>simp[hg] at h
     | some x=>simp only[hg,Ba] at h;obtain⟨M,U⟩:=X15.1 hg;obtain⟨d,Y,hd⟩:=J.kind.plain F;refine⟨x,f off,h,?_,U▸(g6 off M).2,ab x (Xbu hg)⟩;simp only[Xch,Xbw,Xad,Xc5,Xa5,Dz Y hd (H off M)]
 case ru cs=>
  cases ha with|ru _ b o f hS hn hr=>
   cases F:(T.get t).kind.re with
   | none=>simp[F] at h
   | some q=>
    have J:=hT.of (t:=t) (by rw[F];simp);cases q with
    | true=>
     simp only[F,AD,Fo,Nat.ble_eq] at h;obtain⟨aa,hK⟩:=h;let Z:I A:=(Xb2 (T.get t).size).map λj=>f j;refine⟨_,.agg Z.toArray,hK,?_,?_,A5 _ _⟩
     ·simp only[Xch,Xbw,Xad,Xc5,Xa5];refine Jj J F (by simp[Z]) λj u Y=>?_;simp only[Z,Xd8,Xc7] at Y;obtain⟨j',a7,rfl⟩:=Y;obtain⟨M,U⟩:=X15.1 a7;simp at M U;subst U;exact (hS _ (by omega)).2
     refine .d _ _ (.agg _ _ f (by simp[Z];omega) (λi hi=>?_) (λi hi=>?_) λi hi=>?_)
     ·simp only[X17] at hi;have:=Xaj hi (Nat.min_le_left _ _);simp[Z,this]
     ·simp only[Xb7];exact hn i _
     simp only[Xb7];exact hr i _
    | false=>
     simp only[F] at h;cases hg:cs[0]? with
     | none=>simp[hg] at h
     | some x=>simp only[hg] at h;obtain⟨M,U⟩:=X15.1 hg;obtain⟨d,Y,hd⟩:=J.kind.plain F;refine⟨.d x,f 0,h,?_,U▸.d _ _ (hr 0 M),A5 _ _⟩;simp only[Xch,Xbw,Xad,Xc5,Xa5,Dz Y hd (by simpa using (hS 0 M).2)]
 case qQ r n i k=>
  rw[Ax] at h;obtain⟨o,ho,h⟩:=h;cases o with
  | box cs=>
   simp only at h;cases F:(T.get t).kind.re with
   | none=>simp[F] at h
   | some q=>
    cases q with
    | true=>simp[F] at h
    | false=>
     simp only[F,Ba] at h;obtain⟨x,hg,h⟩:=h;have J:=hT.of (t:=t) (by rw[F];simp);obtain⟨b',c',vs,e,f,g1,g2,g3,g4,g5,g6⟩:=m.obj r _ ho;cases ha with|qQ _ _ _ _ _ M hb hp=>
     obtain⟨b,c,Q,rfl⟩:=hb cs ho;rw[Q] at g1;simp only[X23,X25] at g1;obtain⟨rfl,rfl⟩:=g1;obtain⟨p1,p2⟩:=X15.1 hg;obtain⟨d,Y,hd⟩:=J.kind.plain F;have H:cellAt w b (k+i)=some (f (k+i)):=by rw[A1 g2];exact g5 _ p1
     refine⟨x,f (k+i),h,?_,p2▸(g6 _ p1).2,λr' a6=>?_⟩
     ·simp only[Xch,Xbw,Xad,Xc5,Xa5,Dz Y hd H]
     rw[<- p2] at a6;exact m.s6 r _ ho r' (by simpa[OB.refs] using AV.qj cs (k+i) p1 r' a6)
  | map=>simp at h
  | qu=>simp at h
  | gone=>simp at h
  | row e sz es ae=>
   have h:NW T t n i k es K \/∃q m,ae=.lk i k q m/\n=es.length/\i<es.length/\k<sz/\(T.get t).kind.re=some false/\K (.own q m):=by
    simp only at h;cases ae with
    | no=>exact .inl h
    | rl=>exact .inl h
    | lk i' j q m=>
     rcases h with h|⟨M,rfl,rfl,h4,h5,h6,h7⟩
     ·exact .inl h
     exact .inr ⟨q,m,rfl,M,h4,h5,h6,h7⟩
   rcases h with h|⟨q,m',rfl,hn,V,af,F,hK⟩;rotate_left
   ·cases ha with|qQ _ _ _ _ _ M hb hp=>
    obtain⟨_,U⟩:=M e sz es _ ho;obtain⟨hi,b,c,Q,rfl⟩:=U hn;obtain⟨g0,g1,g2,g3⟩:=m.obj r _ ho;rcases g3 with ⟨f1,_⟩|⟨b',ag,vs,f,f1,f2,f3,f4,f5,f6,f7,f8⟩
    ·rw[Q] at f1;simp at f1
    rw[Q] at f1;simp only[X23,X25] at f1;obtain⟨rfl,rfl⟩:=f1;have J:=hT.of (t:=t) (by rw[F];simp);obtain⟨d,Y,hd⟩:=J.kind.plain F;have H:cellAt w b (c.2+(i*sz+k))=some (f i k):=by rw[A1 f2];exact f6 i k V af
    refine⟨_,f i k,hK,?_,f8.2 i k q m' rfl V af,λr' a6=>m.s6 r _ ho r' (by simpa[OB.refs,AV.refs] using a6)⟩;simp only[Xch,Xbw,Xad,Xc5,Xa5,Dz Y hd H]
   obtain⟨hn,x,hx,h⟩:=h;cases ha with|qQ _ _ _ _ _ M hb hp=>
    obtain⟨_,U⟩:=M e sz es ae ho;obtain⟨hi,b,c,Q,rfl⟩:=U hn;obtain⟨g0,g1,g2,g3⟩:=m.obj r _ ho;rcases g3 with ⟨f1,_⟩|⟨b',ag,vs,f,f1,f2,f3,f4,f5,f6,f7,f8⟩
    ·rw[Q] at f1;simp at f1
    rw[Q] at f1;simp only[X23,X25] at f1;obtain⟨rfl,rfl⟩:=f1;have V:i<es.length:=by omega
    have ah:x=es[i]:=by rw[<- hx];simp[V]
    subst ah;have a8:=g1 i V;have H :∀j,j<sz->cellAt w b (c.2+(i*sz+j))=some (f i j):=λj hj=>by rw[A1 f2];exact f6 i j V hj
    rw[GV] at h;cases F:(T.get t).kind.re with
    | none=>simp[F] at h
    | some q=>
     have J:=hT.of (t:=t) (by rw[F];simp);cases q with
     | true=>
      simp only[F,AD,Fo,Nat.ble_eq] at h;obtain⟨aa,hK⟩:=h;simp only[X16,a8] at aa;let Z:I A:=(Xb2 (T.get t).size).map λj=>f i (k+j);refine⟨_,.agg Z.toArray,hK,?_,?_,A5 _ _⟩
      ·simp only[Xch,Xbw,Xad,Xc5,Xa5];refine Jj J F (by simp[Z]) λj u Y=>?_;simp only[Z,Xd8,Xc7] at Y;obtain⟨j',a7,rfl⟩:=Y;obtain⟨M,U⟩:=X15.1 a7;simp at M U;subst U;rw[Xaq,Xaq];exact H _ (by omega)
      refine .d _ _ (.agg _ _ (λj=>f i (k+j)) (by simp[Z,a8];omega) (λj hj=>?_) (λj hj=>?_) λj hj=>?_)
      ·simp only[X17] at hj;have:=Xaj hj (Nat.min_le_left _ _);simp[Z,this]
      ·simp only[Xb7,Xb8];exact g2 i V _ _
      simp only[Xb7,Xb8];exact f7 i V _ _
     | false=>
      simp only[F] at h;cases hg:(es[i].cells.drop k)[0]? with
      | none=>simp[hg] at h
      | some y=>
       simp only[hg] at h;obtain⟨M,U⟩:=X15.1 hg;simp[a8] at M;obtain⟨d,Y,hd⟩:=J.kind.plain F;refine⟨.d y,f i k,h,?_,?_,A5 _ _⟩
       ·simp only[Xch,Xbw,Xad,Xc5,Xa5,Dz Y hd (H k (by omega))]
       simp only[Xb8,Xcc] at U;subst U;exact .d _ _ (f7 i V k _)
def jR (obl:I (O OB))(r:Nat)(x:OB)(h:r<obl.length):(λi=>(obl.set r (some x)).getD i none)=qn (λi=>obl.getD i none) r (some x):=by
 funext i;by_cases F:i=r
 ·subst F;simp[h]
 rw[AN _ _ _ _ F];simp[List.getElem?_set_ne (Ne.symm F)]
def Tn (m:Mem E w S φ ob){self:Nat}{F:I AV}{v:A}(e:Nat)(H:ob self=none)(V:v.cells.size=F.length) (h :∀i (hi:i<F.length),∃u,v.cells[i]?=some u/\F[i].one=true/\gM S w φ ob F[i] u) (U :∀c∈F,gN ob c) : qH E w S φ ob (.ref self 0) [(self,.box F)] (.pointer (some ⟨w.heap.size,0,none⟩)) (w.alloc (.cells v.cells e)):=by
 obtain⟨Y,Z⟩:=m.alloc self (0,0) (.box F) v.cells e H (λr K=>by
  obtain⟨c,J,Q⟩:=AV.qO F r (by simpa[OB.refs] using K);exact U c J r Q) (λhk=>by
  refine⟨w.heap.size,(0,0),v.cells,e,λj=>v.cells.getD j Xbn,gL _ _ _,Xcq w _,V,λo ho=>?_,λj M=>?_,λj M=>?_⟩
  ·exact absurd (m.bS _ _ ho) (Nat.lt_irrefl _)
  ·obtain⟨u,J,_⟩:=h j M;simp[J]
  obtain⟨u,J,Q,h3⟩:=h j M;refine⟨Q,?_⟩;have:=hk.sF (U _ (Wu M)) h3
  simpa[J] using this)
 refine⟨S,_,Y,Z,.ref self 0 w.heap.size (0,0) (gL _ _ _) (λe' sz es a1 hx=>?_),λr K=>?_⟩
 ·simp[Ak] at hx
 simp only[AV.refs,X13] at K;subst K;simp[Ak]
def Yb {t:Nat}{F:TI}(h:sK P t F){i:TypeInfo}{z:A}(V:P.info? t=some i)(Y:i.zero=some z)(S:Sc)(w:B)(φ:Nat->O (Nat×Rp))(ob:Nat->O OB) : z.cells.size=(F.zero.map AV.d).length/\F.zero.length=F.size/\∀j (K:j<(F.zero.map AV.d).length),∃u,z.cells[j]?=some u/\(F.zero.map AV.d)[j].one=true/\gM S w φ ob (F.zero.map AV.d)[j] u:=by
 obtain⟨i',z',M,h2,h3,Q,Z,U,h7⟩:=h.rz;rw[V] at M;obtain rfl:=X24 M;rw[Y] at Q;obtain rfl:=X24 Q;refine⟨by simp[Z,U],U,λj K=>?_⟩;have J:j<F.zero.length:=by simpa using K
 have H:j<z.cells.size:=by omega
 refine⟨z.cells[j],by simp[H],?_⟩;have:=h7 j J z.cells[j] (by simp[H]);simp only[Xam];generalize F.zero[j]=x at this;generalize z.cells[j]=u at this;cases x with
 | val v=>obtain⟨rfl,h⟩:=this;exact⟨rfl,.d _ _ (.val _ h)⟩
 | nil=>simp only[Ir] at this;subst this;exact⟨rfl,.d _ _ (.nil _)⟩
 | agg=>simp[Ir] at this
 | qY=>simp[Ir] at this
def BZ {α:Type}(F:I α)(n:Nat)(H:I α):I α:=F.take n++H++F.drop (n+H.length)
def Bg {α:Type}(F:I α)(n:Nat)(H:I α)(h:n+H.length<=F.length):(BZ F n H).length=F.length:=by simp[BZ];omega
def EN {α:Type}(F:I α)(n:Nat)(H:I α)(h:n+H.length<=F.length)(j:Nat) : (BZ F n H)[j]?=if n<=j/\j<n+H.length then H[j-n]? else F[j]?:=by
 unfold BZ;rw[Xav,List.getElem?_append];simp only[X17,Xda (show n<=F.length by omega)];split
 ·rw[Xk (by omega),List.getElem?_take_of_lt (by assumption)]
 rw[List.getElem?_append];split
 ·rw[Xl (by omega)]
 rw[Xk (by omega),List.getElem?_drop];congr 1;omega
def J8 {t:Nat}{v:A}{b o:Nat}{e:Nat}{F:Array A}(hg:w.heap[b]?=some (.cells F e (0,0)))(J:(P.info? t).map (·.size)=some v.cells.size) (K:o+v.cells.size<=F.size) (M :∀u∈v.cells.toList,u.oneCell'=true) : (Instr.storeAt t (.pointer (some ⟨b,o,none⟩)) v).run P w=.ok () (w.setRow b (BZ F.toList o v.cells.toList).toArray):=by
 have:=run_storeCells_at P b o e v.cells.toList 0 F w hg (by simpa using K) M;simp only[Xcc] at this;cases H:P.info? t with
 | none=>simp[H] at J
 | some i=>
  have Q:v.cells.size=i.size:=by simp[H] at J;omega
  simp[Instr.storeAt,Xbw,storeVar,sizeOf,Xde,H,Q,this,BZ]
def Ih (w:B)(b:Nat)(F:Array A):(∀k,k≠b->(w.setRow b F).heap[k]?=w.heap[k]?)/\(w.setRow b F).heap.size=w.heap.size/\ ((w.setRow b F).os=w.os/\(w.setRow b F).output=w.output/\(w.setRow b F).tape=w.tape/\w.drawn<=(w.setRow b F).drawn):=
 ⟨λk H=>setRow_other w b k F H,size_setRow w b F,rfl,rfl,rfl,Xa2 _⟩
def cells_one {v:A}{F:I AV}(K:v.cells.size=F.length)(h :∀i (H:i<F.length),∃u,v.cells[i]?=some u/\F[i].one=true/\gM S w φ ob F[i] u) : ∀u∈v.cells.toList,u.oneCell'=true:=by
 intro u M;obtain⟨i,H,rfl⟩:=Wr M;have J:i<F.length:=by simpa[K] using H
 obtain⟨u,Q,U,V⟩:=h i J;have:u=v.cells.toList[i]:=by
  have:v.cells.toList[i]?=some u:=by simpa using Q
  rw[X14 H] at this;exact (X24 this).symm
 rw[<- this];exact V.one U
def QM (m:Mem E w S φ ob){t r off:Nat}{H J:I AV}{v:A}{b:Nat}{c:Rp}(U:φ r=some (b,c))(Z:ob r=some (.box H))(hi:(P.info? t).map (·.size)=some J.length) (hs:v.cells.size=J.length) (h :∀i (hi:i<J.length),∃u,v.cells[i]?=some u/\J[i].one=true/\gM S w φ ob J[i] u) (hc :∀c∈J,gN ob c) (a8:off+J.length<=H.length) : ∃w',(Instr.storeAt t (.pointer (some ⟨b,off,none⟩)) v).run P w=.ok () w'/\qH E w S φ ob .dead [(r,.box (BZ H off J))] Xbn w':=by
 obtain⟨b',c',F,e,f,g1,g2,g3,g4,g5,g6⟩:=m.obj r _ Z;rw[U] at g1;simp only[X23,X25] at g1;obtain⟨rfl,rfl⟩:=g1;have qE:off+v.cells.toList.length<=F.toList.length:=by simp;omega
 refine⟨_,J8 g2 (by rw[hi,hs]) (by omega) (cells_one hs h),?_⟩;obtain⟨q1,q2,q3⟩:=Ih w b (BZ F.toList off v.cells.toList).toArray;have hh:=setRow_heap w b F (BZ F.toList off v.cells.toList).toArray e (0,0) g2;have a1 :∀M∈(OB.box (BZ H off J)).refs,ob M≠none:=by
  intro M a6;obtain⟨x,Q,h2⟩:=AV.qO _ M (by simpa[OB.refs] using a6);simp only[BZ,X22] at Q;rcases Q with (Q|Q)|Q
  ·obtain⟨j,K,rfl⟩:=Wr (List.mem_of_mem_take Q);exact m.s6 r _ Z M (by simpa[OB.refs] using AV.qj H j K M h2)
  ·exact hc x Q M h2
  obtain⟨j,K,rfl⟩:=Wr (List.mem_of_mem_drop Q);exact m.s6 r _ Z M (by simpa[OB.refs] using AV.qj H j K M h2)
 have V:(BZ H off J).length=H.length:=Bg _ _ _ a8;have:=m.set r _ (.box (BZ H off J)) (w.setRow b (BZ F.toList off v.cells.toList).toArray) (φ r) Z (λk hk aa=>q1 k λe=>aa c (by rw[e];exact U)) (by omega) q3
  (λb' c' o hb hS=>by rw[U] at hb;simp only[X23,X25] at hb;rw[<- hb.1] at hS;exact absurd hS (g4 o)) (.inl rfl)
  (.inl ⟨gL _ _ _,by simp[Z,rW],λ_=>⟨H,Z⟩⟩) a1 (λhk=>by
   refine⟨b,c,_,e,λj=>(BZ F.toList off v.cells.toList).getD j Xbn,by rw[gL];exact U,hh,?_,g4,λj K=>?_,λj K=>?_⟩
   ·simp only[Xb9];rw[Bg _ _ _ qE,V];simpa using g3
   ·rw[V] at K;have:j<(BZ F.toList off v.cells.toList).length:=by rw[Bg _ _ _ qE];simp;omega
    simp[this]
   rw[V] at K;have e1:=EN H off J a8 j;have e2:=EN F.toList off v.cells.toList qE j;have ab:j<(BZ H off J).length:=by rw[V];exact K
   rw[X14 ab] at e1;simp only[Xaf,hs] at e2;by_cases Y:off<=j/\j<off+J.length
   ·rw[Xl Y,X14 (by omega)] at e1;rw[Xl Y] at e2;obtain⟨u,Q,h2,h3⟩:=h (j-off) (by omega);have a7:v.cells.toList[j-off]?=some u:=by simpa using Q
    simp only[X23] at e1;rw[e1];refine⟨h2,?_⟩;have:=hk.sF (hc _ (Wu (h:=by omega))) h3;simp only[Xo,e2,a7,Xaw];exact this
   rw[Xk Y,X14 K] at e1;rw[Xk Y] at e2;simp only[X23] at e1;rw[e1];refine⟨(g6 j K).1,?_⟩;have:=hk.sF (a:=H[j]) (λM a6=>m.s6 r _ Z M (by simpa[OB.refs] using AV.qj H j K M a6)) (g6 j K).2;have a7:F.toList[j]?=some (f j):=by simpa using g5 j K
   simp only[Xo,e2,a7,Xaw]
   exact this)
 have hu:qn φ r (φ r)=φ:=by funext i;by_cases hi:i=r<;>simp[qn,hi]
 rw[hu] at this;exact⟨S,φ,this.1,this.2,.dead _,FT _⟩
def D.rV {x:D}(h:x.isAgg=false):x.cells=[x]:=by cases x<;>first|rfl|simp[D.isAgg] at h
def qf.cells {x:D}{v:A}(h:qf S w x v):v.cells.size=x.cells.length/\∀i (F:i<x.cells.length),∃u,v.cells[i]?=some u/\x.cells[i].isAgg=false/\qf S w x.cells[i] u:=by
 by_cases H:x.isAgg=true
 ·cases x with
  | agg V=>cases h with|agg _ Y f J K M Q=>exact⟨by simp[Xdj,J,D.cells],λi F=>⟨f i,K i F,M i F,Q i F⟩⟩
  | _=>simp[D.isAgg] at H
 have H:x.isAgg=false:=by simpa using H
 have U:v.cells=#[v]:=by have:=h.one H;cases v<;>first|rfl|simp[Value.oneCell'] at this
 rw[D.rV H,U];refine⟨rfl,λi F=>⟨v,?_,?_,?_⟩⟩
 ·have:i=0:=by simpa using F
  simp[this]
 ·simpa using H
 simpa using h
def qf.norm {x:D}{v:A}(h:qf S w x v):qf S w x.norm v:=by
 cases h with
 | val v h=>exact .val v h
 | nil sz=>exact .ri sz _ _
 | ri sz a F=>exact .ri sz a F
 | qY sz U b o F f V Y qE Z M Q=>exact .qY sz U b o F f V Y qE Z M Q
 | agg K vs f hs hf M Q=>
  refine .agg _ vs f (by simpa using hs) (λi J=>hf i (by simpa using J)) (λi J=>?_) λi J=>?_
  ·have H:i<K.length:=by simpa using J
   have:=M i H;simp only[Xam];revert this;cases K[i]<;>simp[D.isAgg]
  have H:i<K.length:=by simpa using J
  have:=Q i H;simp only[Xam];revert this;generalize K[i]=y;generalize f i=u;cases y with
  | nil sz=>intro h;cases h;exact .ri sz _ _
  | _=>intro h;exact h
def D.rL (x:D):x.norm.cells.length=x.cells.length:=by cases x<;>simp[D.norm,D.cells]
def KC (m:Mem E w S φ ob){t r i k e sz:Nat}{es:I D}{x y:D}{v:A}{b:Nat}{c:Rp}(V:φ r=some (b,c)){fz fz':FZ}(ho:ob r=some (.row e sz es fz))(aa:fz.frozen=false)(ar:fz'.frozen=false)(hi:(P.info? t).map (·.size)=some x.cells.length) (ab :∀i' j q n,fz'=.lk i' j q n->i'=i/\j=k/\ob q≠none/\v.cells=#[v]/\gM S w φ ob (.own q n) v) (hx:qf S w x v) (Y:i<es.length) (ae:k+x.cells.length<=sz) (hy:y.cells=BZ es[i].cells k x.cells) : ∃w',(Instr.storeAt t (.pointer (some ⟨b,c.2+(i*sz+k),none⟩)) v).run P w=.ok () w'/\qH E w S φ ob .dead [(r,.row e sz (es.set i y) fz')] Xbn w':=by
 obtain⟨g0,g1,g2,g3⟩:=m.obj r _ ho;rcases g3 with ⟨f1,_⟩|⟨b',au,F,f,f1,f2,f3,f4,f5,f6,f7,f8⟩
 ·rw[V] at f1;simp at f1
 rw[V] at f1;simp only[X23,X25] at f1;obtain⟨rfl,rfl⟩:=f1;obtain⟨x1,x2⟩:=hx.cells;have af:(i+1)*sz<=c.1*sz:=X30 _ (by omega);rw[X31] at af;have h1 :∀u∈v.cells.toList,u.oneCell'=true:=by
  intro u hu;obtain⟨j,J,rfl⟩:=Wr hu;have K:j<x.cells.length:=by simpa[x1] using J
  obtain⟨u,q1,q2,q3⟩:=x2 j K;have:v.cells.toList[j]?=some u:=by simpa using q1
  rw[X14 J] at this;rw[X24 this];exact q3.one q2
 have Q:(c.2+(i*sz+k))+v.cells.toList.length<=F.toList.length:=by simp;omega
 refine⟨_,J8 f2 (by rw[hi,x1]) (by omega) h1,?_⟩;obtain⟨q1,q2,q3⟩:=Ih w b (BZ F.toList (c.2+(i*sz+k)) v.cells.toList).toArray;have hh:=setRow_heap w b F (BZ F.toList (c.2+(i*sz+k)) v.cells.toList).toArray e (0,0) f2;have a7:y.cells.length=sz:=by rw[hy,Bg _ _ _ (by rw[g1 i Y];exact ae),g1 i Y]
 have a8 :∀j (J:j<(es.set i y).length),(es.set i y)[j]=if i=j then y else es[j]'(by simpa using J):=λj J=>by rw[List.getElem_set]
 have ak:=EN es[i].cells k x.cells (by rw[g1 i Y];exact ae);have:=m.set r _ (.row e sz (es.set i y) fz') (w.setRow b (BZ F.toList (c.2+(i*sz+k)) v.cells.toList).toArray) (φ r) ho (λk hk al=>q1 k λe=>al c (by rw[e];exact V)) (by omega) q3
  (λb' c' o hb hS=>by rw[V] at hb;simp only[X23,X25] at hb;rw[<- hb.1] at hS;exact absurd hS (f8.1 o (by simp[aa]))) (.inl rfl)
  (.inl ⟨gL _ _ _,by simp[ho,rW],λh=>by simp at h⟩) (λr' Z=>by
   cases hq:fz' with
   | no=>simp[OB.refs,hq] at Z
   | rl=>simp[OB.refs,hq] at Z
   | lk i' j q n=>
    simp only[OB.refs,hq,FZ.sC,X13] at Z;rw[Z];exact (ab _ _ _ _ hq).2.2.1) (λhk=>by
   have a1 :∀j (J:j<y.cells.length),y.cells[j].isAgg=false/\∃u,(if k<=j/\j<k+x.cells.length then v.cells[j-k]? else some (f i j))=some u/\qf S (w.setRow b (BZ F.toList (c.2+(i*sz+k)) v.cells.toList).toArray) y.cells[j] u:=by
    intro j J;have e1:=ak j;rw[<- hy,X14 J] at e1;by_cases M:k<=j/\j<k+x.cells.length
    ·rw[Xl M] at e1⊢;rw[X14 (by omega)] at e1;obtain⟨u,p1,p2,p3⟩:=x2 (j-k) (by omega);rw[X24 e1];exact⟨p2,u,p1,p3.mono hk.k⟩
    rw[Xk M] at e1⊢;rw[X14 (by rw[g1 i Y];omega)] at e1;rw[X24 e1];exact⟨g2 i Y j (by rw[g1 i Y];omega),f i j,rfl,(f7 i Y j (by rw[g1 i Y];omega)).mono hk.k⟩
   refine⟨g0,λj J=>?_,λj J l H=>?_,.inr ⟨b,c,_,λj l=>(BZ F.toList (c.2+(i*sz+k)) v.cells.toList).getD (c.2+(j*sz+l)) Xbn,by rw[gL];exact V,hh,by simpa using f3,f4,?_,λj l J H=>?_,λj J l H=>?_,λo _=>f8.1 o (by simp[aa]),λi' j' q n hq ax K=>?_⟩⟩
   ·rw[a8 j J];split
    ·exact a7
    exact g1 j _
   ·have:=a8 j J;simp only[this] at H⊢;split at H
    ·rename_i U;simp only[U,Xdt];exact (a1 l H).1
    rename_i U;simp only[U,Xd5];exact g2 j _ l H
   ·simp only[Xb9];rw[Bg _ _ _ Q];simpa using f5
   ·have K:j<es.length:=by simpa using J
    have:(j+1)*sz<=c.1*sz:=X30 _ (by omega);rw[X31] at this;have an:c.2+(j*sz+l)<(BZ F.toList (c.2+(i*sz+k)) v.cells.toList).length:=by rw[Bg _ _ _ Q];simp;omega
    simp[an]
   ·have K:j<es.length:=by simpa using J
    have ao:=a8 j J;have e2:=EN F.toList (c.2+(i*sz+k)) v.cells.toList Q (c.2+(j*sz+l));simp only[ao] at H⊢;simp only[Xo,e2];by_cases U:i=j
    ·subst U;simp only[Xdt] at H⊢;obtain⟨_,u,p1,p2⟩:=a1 l H;simp only[Xaf,x1];have a6:(c.2+(i*sz+k)<=c.2+(i*sz+l)/\c.2+(i*sz+l)<c.2+(i*sz+k)+x.cells.length)↔(k<=l/\l<k+x.cells.length):=by omega
     by_cases M:k<=l/\l<k+x.cells.length
     ·rw[Xl M] at p1;rw[Xl (a6.2 M),show c.2+(i*sz+l)-(c.2+(i*sz+k))=l-k by omega];have:v.cells.toList[l-k]?=some u:=by simpa using p1
      rw[this];exact p2
     rw[Xk M] at p1;rw[Xk (λh=>M (a6.1 h))];have:F.toList[c.2+(i*sz+l)]?=some (f i l):=by simpa using f6 i l Y (by omega)
     rw[this];rw[X24 p1];exact p2
    simp only[U,Xd5] at H⊢;have ap:l<sz:=by rw[g1 j K] at H;exact H
    have ag:¬ (c.2+(i*sz+k)<=c.2+(j*sz+l)/\c.2+(j*sz+l)<c.2+(i*sz+k)+v.cells.toList.length):=by
     simp only[Xaf,x1];rcases Nat.lt_or_ge i j with h|h
     ·have:(i+1)*sz<=j*sz:=X30 _ h;rw[X31] at this;omega
     have:(j+1)*sz<=i*sz:=X30 _ (by omega);rw[X31] at this;omega
    rw[Xk ag];have:F.toList[c.2+(j*sz+l)]?=some (f j l):=by simpa using f6 j l K ap
    rw[this];exact (f7 j K l H).mono hk.k
   obtain⟨rfl,rfl,aq,ah,ai⟩:=ab _ _ _ _ hq;have e2:=EN F.toList (c.2+(i'*sz+j')) v.cells.toList Q (c.2+(i'*sz+j'));rw[Xl (by simp[ah]),Nat.sub_self] at e2;have e3:(BZ F.toList (c.2+(i'*sz+j')) v.cells.toList).getD (c.2+(i'*sz+j')) Xbn=v:=by rw[Xo,e2,ah];rfl
   simp only[e3]
   exact hk.sF (λq' aj=>by simp only[AV.refs,X13] at aj;rw[aj];exact aq) ai)
 have hu:qn φ r (φ r)=φ:=by funext i;by_cases hi:i=r<;>simp[qn,hi]
 rw[hu] at this;exact⟨S,φ,this.1,this.2,.dead _,FT _⟩
def Mem.move (m:Mem E w S φ ob)(r self e sz:Nat)(es zs:I D)(h0:ob r=some (.row e sz es .no))(hs:ob self=none)(hz:zs <+: es) : Mem E w S (qn (qn φ r none) self (φ r)) (qn (qn ob r (some .gone)) self (some (.row e sz zs .no)))/\Kept w S φ ob w S (qn (qn φ r none) self (φ r)) (qn (qn ob r (some .gone)) self (some (.row e sz zs .no))):=by
 have a6:r≠self:=λhe=>by rw[he,hs] at h0;simp at h0
 have a7 :∀F,ob F≠none->F≠self:=λF h e=>h (e▸hs);have K :∀F,F≠r->F≠self->qn (qn φ r none) self (φ r) F=φ F/\qn (qn ob r (some .gone)) self (some (.row e sz zs .no)) F=ob F:=λF h1 U=>by rw[AN _ _ _ _ U,AN _ _ _ _ h1,AN _ _ _ _ U,AN _ _ _ _ h1];exact⟨rfl,rfl⟩
 have M:qn (qn ob r (some .gone)) self (some (.row e sz zs .no)) r=some .gone:=by rw[AN _ _ _ _ a6,gL]
 have a8:qn (qn φ r none) self (φ r) r=none:=by rw[AN _ _ _ _ a6,gL]
 have hk:Kept w S φ ob w S (qn (qn φ r none) self (φ r)) (qn (qn ob r (some .gone)) self (some (.row e sz zs .no))):=by
  refine⟨λb o h=>⟨h,rfl⟩,λF h=>?_,λF h=>?_⟩
  ·by_cases hh:F=r
   ·subst hh;exact .inr (.inr ⟨⟨_,_,_,_,h0⟩,by rw[M];rfl,λcs hx=>by rw[M] at hx;simp at hx⟩)
   obtain⟨e1,e2⟩:=K F hh (a7 F h);exact .inl ⟨e1,by rw[e2],λh=>by rwa [e2] at h⟩
  by_cases hh:F=r
  ·rw[hh,M];simp
  rw[(K F hh (a7 F h)).2];exact h
 obtain⟨g0,g1,g2,g3⟩:=m.obj r _ h0;have Y:zs.length<=es.length:=hz.length_le;have Q :∀i (V:i<zs.length),zs[i]=es[i]'(by omega):=λi V=>hz.getElem V;have pre :∀{F:Nat} {x:Nat×Rp},qn (qn ob r (some .gone)) self (some (.row e sz zs .no)) F≠none->qn (qn φ r none) self (φ r) F=some x->(F=self/\φ r=some x)\/(F≠self/\F≠r/\ob F≠none/\φ F=some x):=by
  intro F x h1 U;by_cases H:F=self
  ·subst H;rw[gL] at U;exact .inl ⟨rfl,U⟩
  by_cases J:F=r
  ·subst J;rw[a8] at U;simp at U
  obtain⟨e1,e2⟩:=K F J H;exact .inr ⟨H,J,by rwa [e2] at h1,by rwa [e1] at U⟩
 have Z:ob r≠none:=by rw[h0];simp
 refine⟨⟨?_,?_,?_,m.sS,m.kS,m.bS,m.nS,m.fr,m.sz,?_,m.os⟩,hk⟩
 ·intro F o h;by_cases H:F=self
  ·subst H;simp only[gL,X23] at h;subst h
   refine⟨g0,λi V=>by rw[Q i V];exact g1 _ _,λi V j hj=>by
    have:=Q i V;simp only[this] at hj⊢
    exact g2 _ _ j hj,?_⟩
   rcases g3 with ⟨f1,f2⟩|⟨b,aa,vs,f,f1,f2,f3,f4,f5,f6,f7,f8⟩
   ·refine .inl ⟨by rw[gL];exact f1,?_⟩;rw[f2] at Y;exact Xa7 (by simpa using Y)
   refine .inr ⟨b,aa,vs,f,by rw[gL];exact f1,f2,by omega,f4,f5,λi j V hj=>f6 i j (by omega) hj,λi V j hj=>?_,λo _=>f8.1 o (by simp),λ_ _ _ _ h=>nomatch h⟩;have:=Q i V;simp only[this] at hj⊢;exact f7 i (by omega) j hj
  by_cases J:F=r
  ·subst J;rw[M] at h;obtain rfl:=X24 h;trivial
  obtain⟨e1,e2⟩:=K F J H;rw[e2] at h;exact (m.obj F o h).qL hk e1 (λb c hb=>⟨rfl,λ_ h=>h⟩) (m.s6 F o h)
 ·intro r1 r2 b c c' h1 U k1 k2;rcases pre h1 k1 with ⟨rfl,a1⟩|⟨a1,a2,a3,a4⟩<;>rcases pre U k2 with ⟨rfl,b1⟩|⟨b1,b2,b3,b4⟩
  ·rfl
  ·exact absurd (m.inj r2 r b c' c b3 Z b4 a1) b2
  ·exact absurd (m.inj r1 r b c c' a3 Z a4 b1) a2
  exact m.inj r1 r2 b c c' a3 b3 a4 b4
 ·intro F o h ab hm;by_cases H:F=self
  ·subst H;simp only[gL,X23] at h;subst h;simp[OB.refs] at hm
  by_cases J:F=r
  ·subst J;rw[M] at h;obtain rfl:=X24 h;simp[OB.refs] at hm
  rw[(K F J H).2] at h;exact hk.c _ (m.s6 F o h ab hm)
 intro F b c h g;rcases pre h g with ⟨rfl,a1⟩|⟨a1,a2,a3,a4⟩
 ·exact m.ow r b c Z a1
 exact m.ow F b c a3 a4
def Mem.tn (m:Mem E w S φ ob)(r self e sz l:Nat)(es zs:I D)(p:O (Nat×Rp))(h0:ob r=some (.row e sz es .no))(hs:ob self=none)(hl:l+zs.length<=es.length)(hz :∀i (Z:i<zs.length),zs[i]=es[l+i]'(by omega)) (hp:(p=none/\zs=[]) \/∃b c Q,φ r=some (b,c)/\p=some (b,(Q,c.2+l*sz))/\zs.length<=Q/\l+Q<=c.1) : Mem E w S (qn (qn φ r none) self p) (qn (qn ob r (some .gone)) self (some (.row e sz zs .no)))/\Kept w S φ ob w S (qn (qn φ r none) self p) (qn (qn ob r (some .gone)) self (some (.row e sz zs .no))):=by
 have a8:r≠self:=λhe=>by rw[he,hs] at h0;simp at h0
 have aa :∀F,ob F≠none->F≠self:=λF h e=>h (e▸hs);have U :∀F,F≠r->F≠self->qn (qn φ r none) self p F=φ F/\qn (qn ob r (some .gone)) self (some (.row e sz zs .no)) F=ob F:=λF M H=>by rw[AN _ _ _ _ H,AN _ _ _ _ M,AN _ _ _ _ H,AN _ _ _ _ M];exact⟨rfl,rfl⟩
 have V:qn (qn ob r (some .gone)) self (some (.row e sz zs .no)) r=some .gone:=by rw[AN _ _ _ _ a8,gL]
 have ab:qn (qn φ r none) self p r=none:=by rw[AN _ _ _ _ a8,gL]
 have hk:Kept w S φ ob w S (qn (qn φ r none) self p) (qn (qn ob r (some .gone)) self (some (.row e sz zs .no))):=by
  refine⟨λb o h=>⟨h,rfl⟩,λF h=>?_,λF h=>?_⟩
  ·by_cases hh:F=r
   ·subst hh;exact .inr (.inr ⟨⟨_,_,_,_,h0⟩,by rw[V];rfl,λcs hx=>by rw[V] at hx;simp at hx⟩)
   obtain⟨e1,e2⟩:=U F hh (aa F h);exact .inl ⟨e1,by rw[e2],λh=>by rwa [e2] at h⟩
  by_cases hh:F=r
  ·rw[hh,V];simp
  rw[(U F hh (aa F h)).2];exact h
 obtain⟨g0,g1,g2,g3⟩:=m.obj r _ h0;have a6 :∀{b:Nat} {x:Rp},p=some (b,x)->∃c,φ r=some (b,c):=by
  intro b x h;rcases hp with ⟨H,_⟩|⟨b',c,Q,M,H,_⟩
  ·rw[H] at h;simp at h
  rw[H] at h;simp only[X23,X25] at h;exact⟨c,h.1▸M⟩
 have pre :∀{F:Nat} {x:Nat×Rp},qn (qn ob r (some .gone)) self (some (.row e sz zs .no)) F≠none->qn (qn φ r none) self p F=some x->(F=self/\p=some x)\/(F≠self/\F≠r/\ob F≠none/\φ F=some x):=by
  intro F x M H;by_cases J:F=self
  ·subst J;rw[gL] at H;exact .inl ⟨rfl,H⟩
  by_cases K:F=r
  ·subst K;rw[ab] at H;simp at H
  obtain⟨e1,e2⟩:=U F K J;exact .inr ⟨J,K,by rwa [e2] at M,by rwa [e1] at H⟩
 have a7:ob r≠none:=by rw[h0];simp
 refine⟨⟨?_,?_,?_,m.sS,m.kS,m.bS,m.nS,m.fr,m.sz,?_,m.os⟩,hk⟩
 ·intro F o h;by_cases J:F=self
  ·subst J;simp only[gL,X23] at h;subst h
   refine⟨g0,λi Z=>by rw[hz i Z];exact g1 _ _,λi Z j hj=>by
    have:=hz i Z;simp only[this] at hj⊢
    exact g2 _ _ j hj,?_⟩
   rcases g3 with ⟨f1,f2⟩|⟨b,ae,vs,f,f1,f2,f3,f4,f5,f6,f7,f8⟩
   ·rcases hp with ⟨H,h3⟩|⟨b',c,Q,M,_⟩
    ·exact .inl ⟨by rw[gL];exact H,h3⟩
    rw[f1] at M;simp at M
   rcases hp with ⟨M,H⟩|⟨b',c,Q,M,H,h3,h4⟩
   ·exact .inl ⟨by rw[gL];exact M,H⟩
   rw[f1] at M;simp only[X23,X25] at M;obtain⟨rfl,rfl⟩:=M;have af:(l+Q)*sz<=ae.1*sz:=X30 _ h4;rw[X31] at af;refine .inr ⟨b,(Q,ae.2+l*sz),vs,λi j=>f (l+i) j,by rw[gL];exact H,f2,h3,by simp only;omega,by simp only;omega,λi j Z hj=>?_,λi Z j hj=>?_,λo _=>f8.1 o (by simp),λ_ _ _ _ h=>nomatch h⟩
   ·have:=f6 (l+i) j (by omega) hj;rw[X31] at this;simp only;rw[<- this];congr 1;omega
   have:=hz i Z;simp only[this] at hj⊢;exact f7 (l+i) (by omega) j hj
  by_cases K:F=r
  ·subst K;rw[V] at h;obtain rfl:=X24 h;trivial
  obtain⟨e1,e2⟩:=U F K J;rw[e2] at h;exact (m.obj F o h).qL hk e1 (λb c hb=>⟨rfl,λ_ h=>h⟩) (m.s6 F o h)
 ·intro r1 r2 b c Q M H k1 k2;rcases pre M k1 with ⟨rfl,Y⟩|⟨Y,a2,a3,a4⟩<;>rcases pre H k2 with ⟨rfl,b1⟩|⟨b1,b2,b3,b4⟩
  ·rfl
  ·obtain⟨c0,Y⟩:=a6 Y;exact absurd (m.inj r2 r b Q c0 b3 a7 b4 Y) b2
  ·obtain⟨c0,b1⟩:=a6 b1;exact absurd (m.inj r1 r b c c0 a3 a7 a4 b1) a2
  exact m.inj r1 r2 b c Q a3 b3 a4 b4
 ·intro F o h ag hm;by_cases J:F=self
  ·subst J;simp only[gL,X23] at h;subst h;simp[OB.refs] at hm
  by_cases K:F=r
  ·subst K;rw[V] at h;obtain rfl:=X24 h;simp[OB.refs] at hm
  rw[(U F K J).2] at h;exact hk.c _ (m.s6 F o h ag hm)
 intro F b c h g;rcases pre h g with ⟨rfl,Y⟩|⟨Y,a2,a3,a4⟩
 ·obtain⟨c0,Y⟩:=a6 Y;exact m.ow r b c0 a7 Y
 exact m.ow F b c a3 a4
def qe (ob ob':Nat->O OB):Prop:=∀r,ob' r=ob r \/∃e sz F f,ob r=some (.row e sz F f)/\ob' r=some (.row e sz F .rl)
def qe.refl (ob:Nat->O OB):qe ob ob:=λ_=>.inl rfl
def qe.row {ob ob':Nat->O OB}(h:qe ob ob'){r e sz:Nat}{es:I D}{f:FZ}(H:ob r=some (.row e sz es f)) :∃J,ob' r=some (.row e sz es J):=by
 rcases h r with F|⟨U,K,M,J,F,Q⟩
 ·exact⟨f,F.trans H⟩
 rw[H] at F;simp only[X23,OB.row.injEq] at F;obtain⟨rfl,rfl,rfl,rfl⟩:=F;exact⟨.rl,Q⟩
def qe.qn {ob ob':Nat->O OB}(h:qe ob ob'){r e sz:Nat}{es:I D}{f:FZ}(J:ob r=some (.row e sz es f)):qe ob (Go.AX.qn ob' r (some (.row e sz es .rl))):=by
 intro F;by_cases H:F=r
 ·subst H;rw[gL];exact .inr ⟨e,sz,es,f,J,rfl⟩
 rw[AN _ _ _ _ H];exact h F
def Va (obl:I (O OB))(wr:W):Prop:=∀r o,(r,o)∈wr->∃e sz F f,obl.getD r none=some (.row e sz F f)/\o=.row e sz F .rl
def EM {obl:I (O OB)}(m:Mem E w S φ ob)(M:qe (λr=>obl.getD r none) ob){a:AV}{v:A}{K:D->W->Prop}(ha:gM S w φ ob a v)(h:fv obl a K) : ∃x wr S',K x wr/\Mem E w S' φ (Ak ob wr)/\Kept w S φ ob w S' φ (Ak ob wr)/\qf S' w x v/\qe (λr=>obl.getD r none) (Ak ob wr)/\Va obl wr:=by
 have own :∀{S:Sc} {ob:Nat->O OB} (_:Mem E w S φ ob) (_:qe (λr=>obl.getD r none) ob) {r n:Nat} {v:A} {K:OB->Prop} (_:gM S w φ ob (.own r n) v) (_:CX obl r K),
   ∃o,K o/\∀e sz es f,o=.row e sz es f->n=es.length->∃S',Mem E w S' φ (qn ob r (some (.row e sz es .rl)))/\Kept w S φ ob w S' φ (qn ob r (some (.row e sz es .rl)))/\qf S' w (.qY sz es) v/\
    qe (λr=>obl.getD r none) (qn ob r (some (.row e sz es .rl)))/\Va obl [(r,.row e sz es .rl)]:=by
  intro S ob m M r n v K ha h;rw[Ax] at h;obtain⟨o,ho,J⟩:=h;refine⟨o,J,λe sz es f ai hn=>?_⟩;subst ai;obtain⟨f',ae⟩:=M.row ho;obtain⟨S',m',k',hd⟩:=m.freeze r e sz es f' ae;refine⟨S',m',k',hd v ?_,M.qn ho,λr' o' U=>?_⟩
  ·cases ha with|own _ _ _ k c a0 hv hk h1 hb=>have:=(h1 e sz es f' ae).2 hn;rwa [<- hn]
  simp only[X13,X25] at U;obtain⟨rfl,rfl⟩:=U;exact⟨e,sz,es,f,ho,rfl⟩
 cases a<;>simp only[fv] at h;case d x=>rw[Fv] at h;cases ha with|d _ _ ha=>exact⟨_,[],S,h,m,.refl w S φ ob,ha.norm,M,λ_ _ U=>by simp at U⟩
 case own r n=>
  obtain⟨o,J,hh⟩:=own m M ha h;cases o with
  | box=>simp at J
  | map=>simp at J
  | qu=>simp at J
  | gone=>simp at J
  | row e sz es f=>simp only at J;obtain⟨S',h1,h2,h3,h4,h5⟩:=hh e sz es f rfl J.1;exact⟨_,_,S',J.2,h1,h2,h3,h4,h5⟩
 case agg V=>
  cases ha with|agg _ vs f hs hf hn hr=>
  have key :∀(V:I AV) (F:Nat) (S:Sc) (ob:Nat->O OB) (_:Mem E w S φ ob) (_:qe (λr=>obl.getD r none) ob) (K:I D->W->Prop)
    (_ :∀i (H:i<V.length),gM S w φ ob V[i] (f (F+i))) (_:fv.toDs obl V K),
    ∃l wr S',K l wr/\l.length=V.length/\Mem E w S' φ (Ak ob wr)/\Kept w S φ ob w S' φ (Ak ob wr)/\(∀i (H:i<l.length),l[i].isAgg=false/\qf S' w l[i] (f (F+i)))/\
     qe (λr=>obl.getD r none) (Ak ob wr)/\Va obl wr:=by
   intro V;induction V with
   | nil=>intro F S ob m M K _ h;exact⟨[],[],S,h,rfl,m,.refl w S φ ob,λi H=>by simp at H,M,λ_ _ U=>by simp at U⟩
   | cons c V ih=>
    intro F S ob m M K hr h;have h0:=hr 0 (by simp);simp only[Xao,Xcc] at h0;have Z :∀i (H:i<V.length),gM S w φ ob V[i] (f (F+1+i)):=λi H=>by have:=hr (i+1) (by simpa using H);simpa[Xaq,Xci 1 i] using this
    have fin :∀(x:D) (l:I D) (S':Sc),x.isAgg=false->qf S' w x (f F)->(∀i (H:i<l.length),l[i].isAgg=false/\qf S' w l[i] (f (F+1+i)))->
      ∀i (H:i<(x::l).length),(x::l)[i].isAgg=false/\qf S' w (x::l)[i] (f (F+i)):=by
     intro x l S' h1 h2 h3 i H;cases i with
     | zero=>exact⟨h1,h2⟩
     | succ i=>have:=h3 i (by simpa using H);simpa[Xaq,Xci 1 i] using this
    cases c<;>simp only[fv.toDs] at h;case d x=>
     cases h0 with|d _ _ h0=>
     have ab:=h0.norm;cases x with
     | agg l=>simp at h
     | val u=>simp only at h;obtain⟨l,wr,S',a1,a2,a3,Q,Y,a6,a7⟩:=ih (F+1) S ob m M _ Z h;exact⟨_,wr,S',a1,by simp[a2],a3,Q,fin _ _ _ rfl (ab.mono Q.k) Y,a6,a7⟩
     | nil u=>simp only at h;obtain⟨l,wr,S',a1,a2,a3,Q,Y,a6,a7⟩:=ih (F+1) S ob m M _ Z h;exact⟨_,wr,S',a1,by simp[a2],a3,Q,fin _ _ _ rfl (ab.mono Q.k) Y,a6,a7⟩
     | qY u v=>simp only at h;obtain⟨l,wr,S',a1,a2,a3,Q,Y,a6,a7⟩:=ih (F+1) S ob m M _ Z h;exact⟨_,wr,S',a1,by simp[a2],a3,Q,fin _ _ _ rfl (ab.mono Q.k) Y,a6,a7⟩
    case fn g af=>
     cases af with
     | cons=>simp at h
     | nil=>
      simp only at h;generalize hv:f F=vf at h0;cases h0 with|fn _ _ vs g' ao _ _=>
      have aj:vs=#[]:=by cases vs;simp_all
      subst aj;obtain⟨l,wr,S',a1,a2,a3,Q,Y,a6,a7⟩:=ih (F+1) S ob m M _ Z h;exact⟨_,wr,S',a1,by simp[a2],a3,Q,fin _ _ _ rfl (by rw[hv];exact .val _ rfl) Y,a6,a7⟩
    case own r n=>
     obtain⟨o,J,hh⟩:=own m M h0 h;cases o with
     | box=>simp at J
     | map=>simp at J
     | qu=>simp at J
     | gone=>simp at J
     | row e sz es fz=>
      simp only at J;obtain⟨S1,b1,b2,b3,b4,b5⟩:=hh e sz es fz rfl J.1;have ak :∀i (H:i<V.length),gM S1 w φ (qn ob r (some (.row e sz es .rl))) V[i] (f (F+1+i)):=λi H=>
       (Z i H).mono b2.k λr' an=>by
        by_cases ag:ob r'=none
        ·by_cases ah:r'=r
         ·subst ah;rw[Ax] at h;obtain⟨o',al,a8⟩:=h;have:=M.row (r:=r') (e:=e) (sz:=sz) (es:=es) (f:=fz);cases o' with
          | box=>simp at a8
          | map=>simp at a8
          | qu=>simp at a8
          | gone=>simp at a8
          | row e' ap aq f'=>obtain⟨ar,aa⟩:=M.row al;rw[ag] at aa;simp at aa
         refine .inl ⟨rfl,?_,?_⟩<;>rw[AN _ _ _ _ ah];exact id
        exact b2.r r' ag
      obtain⟨l,wr,S',a1,a2,a3,Q,Y,a6,a7⟩:=ih (F+1) S1 _ b1 b4 _ ak J.2;refine⟨_,(r,.row e sz es .rl)::wr,S',a1,by simp[a2],a3,b2.trans Q,fin _ _ _ rfl (b3.mono Q.k) Y,a6,λr' o' U=>?_⟩;simp only[Xp] at U;rcases U with U|U
      ·exact b5 r' o' (by simp[U])
      exact a7 r' o' U
  obtain⟨l,wr,S',a1,a2,a3,Q,Y,a6,a7⟩:=key V 0 S ob m M _ (λi H=>by simpa using hr i H) h;refine⟨_,wr,S',a1,a3,Q,.agg l vs f (by omega) (λi H=>hf i (by omega)) (λi H=>(Y i H).1) (λi H=>by simpa using (Y i H).2),a6,a7⟩
end
end Go.AX
end
