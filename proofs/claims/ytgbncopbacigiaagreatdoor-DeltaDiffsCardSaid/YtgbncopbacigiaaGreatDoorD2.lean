/-
  Texts of one proof, packed.
-/
import Derived.Test.YtgbncopbacigiaaGreatDoorD1
import Derived.Great.BuildSlice
import Derived.Laws.IdiomCopy
import Derived.Laws.StructEq
set_option linter.all false
set_option maxRecDepth 100000
set_option maxHeartbeats 4000000
open List renaming length_map→X10,length_append→X11,mem_singleton→X14,getElem?_eq_getElem→X15,getElem?_eq_some_iff→X16,length_drop→X17,length_take→X18,length_replicate→X20,length_set→X21,mem_append→X23
open Option.some renaming injEq→X24,inj→X25
open Prod.mk renaming injEq→X26
open Nat renaming mul_le_mul_right→X31,add_mul→X32
open List renaming range→Xb4
open Go.Result renaming andThen_ok→Xa1
open Go renaming run_underlying→Xa5,Operand→Xaw,execOp→Xbd,undef→Xc3,Program→Xcz
open Go.Sem renaming run_bind→Xa9,run_pure→Xbz
open Go.Instr renaming sureAddr→Xbu,loadAt→Xcg
open Go.Value renaming cells→Xdj
section
namespace Go.AX
def rW (P:Xcz)(t:Nat):TK->Prop
 | .bool=>P.underlying t=some .bool
 | .int k=>P.underlying t=some (.int k)
 | .str=>P.underlying t=some .string
 | .ptr=>∃e,P.underlying t=some (.pointer e)
 | .fn=>∃a b c,P.underlying t=some (.func a b c)
 | .slice e=>P.underlying t=some (.slice e)
 | .arr n e=>P.underlying t=some (.array n e)
 | .map k e=>P.underlying t=some (.map k e)
 | .struct fs=>P.stoodInHeld t=false/\P.eqGuardType P.depth t=false/\∃F:Array Field,P.underlying t=some (.struct F)/\
   F.toList.map (fun f => (f.offset, (P.info? f.type).map (·.size), f.type)) = fs.map (fun x => (x.1, some x.2.1, x.2.2)) ∧ ∀ f ∈ F.toList, f.name ≠ "_"
 | .other=>True
def IH:D->A->Prop
 | .val v,F=>v=F/\v.oneCell'=true
 | .nil _,F=>F=.slice none 0 0
 | _,_=>False
structure ud (P:Program)(t:Nat)(ti:TI):Prop where
 sV :∃i z,P.info? t=some i/\i.size=ti.size/\i.bytes=ti.bytes/\i.zero=some z/\z.cells.size=ti.size/\ti.zero.length=ti.size/\
  ∀j (hj:j<ti.zero.length) v,z.cells[j]?=some v->IH ti.zero[j] v
 kind:rW P t ti.kind
 xn :∀i z,P.info? t=some i->i.zero=some z->(ti.kind.sG=some true->∃cs,z=.agg cs)/\(ti.kind.sG=some false->∀cs,z≠.agg cs)
def rc (P:Xcz)(T:TT):Prop:=∀t,(T.get t).kind.sG=none\/ud P t (T.get t)
section
variable {P:Program} {T:TT}
def rc.of (h:rc P T){t:Nat}(F:(T.get t).kind.sG≠none):ud P t (T.get t):=(h t).resolve_left F
def ud.uj {t:Nat}{F:TI}(h:ud P t F):(P.info? t).map (·.size)=some F.size:=by obtain⟨i,z,H,J,_⟩:=h.sV;simp[H,J]
def rW.plain {t:Nat}{k:TK}(h:rW P t k)(F:k.sG=some false) :∃d,P.underlying t=some d/\d.isRow=false:=by
 cases k<;>simp[TK.sG] at F<;>simp only[rW] at h;case ptr=>obtain⟨e,h⟩:=h;exact⟨_,h,rfl⟩
 case fn=>obtain⟨a,b,c,h⟩:=h;exact⟨_,h,rfl⟩
 all_goals exact⟨_,h,rfl⟩
def rW.row {t:Nat}{k:TK}(h:rW P t k)(H:k.sG=some true) :∃d,P.underlying t=some d/\d.isRow=true:=by
 cases k<;>simp[TK.sG] at H<;>simp only[rW] at h;case arr=>exact⟨_,h,rfl⟩
 case struct=>obtain⟨_,_,F,h,_⟩:=h;exact⟨_,h,rfl⟩
def Nz {t:Nat}{d:TypeDesc}(h:P.underlying t=some d)(w:B):(isAgg t).run P w=.ok d.isRow w:=by unfold isAgg;rw[Xa9,Xa5 h w];cases d<;>rfl
def Ag (ob:Nat->C OB):W->Nat->C OB
 | []=>ob
 | (r,x)::w=>Ag (rJ ob r (some x)) w
def rf (P:Xcz)(o:z)(ρ:Xaw->A)(w:B)(Q:A->B->Prop):Prop:=
 match (Xbd ρ o).run P w with
 | .ok (.value v) w'=>Q v w'
 | .ok .skip w'=>Q Xc3 w'
 | .ok (.enter f args) w'=>Calls P f args w' λe F=>∃v,e=.returned v/\Q v F
 | _=>False
def s6 (E:Env)(w:B)(S:Sc)(φ:Nat->C (Nat×Rp))(ob:Nat->C OB)(out:AV)(wr:W)(v:A)(w':B):Prop:=
 ∃S' φ',Mem E w' S' φ' (Ag ob wr)/\Kept w S φ ob w' S' φ' (Ag ob wr)/\gM S' w' φ' (Ag ob wr) out v/\gO (Ag ob wr) out
variable {E:Env} {w:B} {S:Sc} {φ:Nat->C (Nat×Rp)} {ob:Nat->C OB}
def s6.pure (m:Mem E w S φ ob){out:AV}{v:A}(h:gM S w φ ob out v)(F:gO ob out):s6 E w S φ ob out [] v w:=
 ⟨S,φ,m,.refl w S φ ob,h,F⟩
def A1 (ob:Nat->C OB)(x:D):gO ob (.d x):=λr F=>by simp[AV.refs] at F
def FB (ob:Nat->C OB):gO ob .dead:=λr F=>by simp[AV.refs] at F
def gM.int {k:IntKind}{n:Int}{v:A}(h:gM S w φ ob (.d (.val (.int k n))) v):v=.int k n:=by cases h with|d _ _ h=>cases h with|val _ _=>rfl
def gM.bool {b:I}{v:A}(h:gM S w φ ob (.d (.val (.bool b))) v):v=.bool b:=by cases h with|d _ _ h=>cases h with|val _ _=>rfl
def gM.str {s:ByteArray}{v:A}(h:gM S w φ ob (.d (.val (.string s))) v):v=.string s:=by cases h with|d _ _ h=>cases h with|val _ _=>rfl
def gM.val {x v:A}(h:gM S w φ ob (.d (.val x)) v):v=x:=by cases h with|d _ _ h=>cases h with|val _ _=>rfl
def gM.vV {r off:Nat}{v:A}(h:gM S w φ ob (.ref r off) v) :∃b c,φ r=some (b,c)/\v=.pointer (some ⟨b,off,none⟩):=by cases h with|ref _ _ b c h F=>exact⟨b,c,h,rfl⟩
def Dz (l:O (C OB))(r:Nat)(o:OB):l.getD r none=some o->r<l.length:=by
 intro h;rcases Nat.lt_or_ge r l.length with F|F
 ·exact F
 simp[F] at h
def Addr.ss (b o n:Nat):(⟨b,o,none⟩:Addr).add n=⟨b,o+n,none⟩:=Addr.add_mid b o n
def AV.rv :∀(F:O AV) (j:Nat) (H:j<F.length) (r:Nat),r∈F[j].refs->r∈AV.refs.refsL F
 | [],j,H,_,_=>by simp at H
 | c::F,0,_,r,hm=>by simp only[AV.refs.refsL,X23];exact .inl hm
 | c::F,j+1,H,r,hm=>by simp only[AV.refs.refsL,X23];exact .inr (AV.rv F j (by simpa using H) r hm)
def AV.sf :∀(F:O AV) (r:Nat),r∈AV.refs.refsL F->∃c∈F,r∈c.refs
 | [],r,h=>by simp[AV.refs.refsL] at h
 | c::F,r,h=>by
  simp only[AV.refs.refsL,X23] at h;rcases h with h|h
  ·exact⟨c,by simp,h⟩
  obtain⟨H,J,K⟩:=AV.sf F r h;exact⟨H,by simp[J],K⟩
def M9 {H:O AV}{vs:Array A}(M:vs.size=H.length)(h :∀i (F:i<H.length),∃v,vs[i]?=some v/\H[i].one=true/\gM S w φ ob H[i] v) : gM S w φ ob (Zf H) (.agg vs):=by
 have Q :∀i (F:i<H.length),vs[i]?=some (vs.getD i Xc3):=λi F=>by obtain⟨v,J,_⟩:=h i F;simp[J]
 have U :∀i (F:i<H.length),gM S w φ ob H[i] (vs.getD i Xc3):=λi F=>by obtain⟨v,J,_,V⟩:=h i F;simpa[J] using V
 unfold Zf;cases Y:Ri H with
 | none=>exact .agg H vs _ M Q (λi F=>by obtain⟨v,_,K,_⟩:=h i F;exact K) U
 | some l=>
  have:=ZD H l Y;subst this;refine .d _ _ (.agg l vs _ (by simpa using M) (λi F=>Q i (by simpa using F)) (λi F=>?_) λi F=>?_)
  ·obtain⟨v,_,K,_⟩:=h i (by simpa using F);simpa[AV.one] using K
  have:=U i (by simpa using F);simp only[Xas] at this;cases this with|d _ _ h=>exact h
def H9 {F:O AV}(h :∀c∈F,gO ob c):gO ob (Zf F):=by
 unfold Zf;cases M:Ri F with
 | some l=>exact A1 ob _
 | none=>intro r H;obtain⟨c,J,K⟩:=AV.sf F r (by simpa[AV.refs] using H);exact h c J r K
def OD {a:AV}{v:A}{J:O AV}(h:gM S w φ ob a v)(F:CB a=some J) : v.cells.size=J.length/\∀i (H:i<J.length),∃u,v.cells[i]?=some u/\J[i].one=true/\gM S w φ ob J[i] u:=by
 have one :∀{a:AV} {v:A},gM S w φ ob a v->a.one=true->v.cells.size=[a].length/\∀i (H:i<[a].length),∃u,v.cells[i]?=some u/\[a][i].one=true/\gM S w φ ob [a][i] u:=by
  intro a v h K;have Y:=h.one K;have Z:v.cells=#[v]:=by cases v<;>first|rfl|simp[Value.oneCell'] at Y
  refine⟨by simp[Z],λi H=>?_⟩;have:i=0:=by simpa using H
  subst this;exact⟨v,by simp[Z],K,h⟩
 cases a with
 | d x=>
  cases x with
  | agg l=>
   simp only[CB] at F;obtain⟨K,Y⟩:=LP l J F;subst K;cases h with|d _ _ h=>cases h with|agg _ vs f M Q U V=>
    refine⟨by simp[Xdj,M],λi H=>⟨f i,?_,?_,?_⟩⟩
    ·exact Q i (by simpa using H)
    ·simpa[AV.one] using U i (by simpa using H)
    simpa using gM.d _ _ (V i (by simpa using H))
  | val v=>simp only[CB,X24] at F;subst F;exact one h rfl
  | nil=>simp only[CB,X24] at F;subst F;exact one h rfl
  | su=>simp only[CB,X24] at F;subst F;exact one h rfl
 | agg l=>simp only[CB,X24] at F;subst F;cases h with|agg _ vs f M Q U V=>exact⟨by simp[Xdj,M],λi H=>⟨f i,Q i H,U i H,V i H⟩⟩
 | ref=>simp only[CB,X24] at F;subst F;exact one h rfl
 | own=>simp only[CB,X24] at F;subst F;exact one h rfl
 | mp=>simp only[CB,X24] at F;subst F;exact one h rfl
 | fn=>simp only[CB,X24] at F;subst F;exact one h rfl
 | _=>simp[CB] at F
def JF {a:AV}{J:O AV}(h:gO ob a)(F:CB a=some J) :∀c∈J,gO ob c:=by
 cases a with
 | d x=>
  cases x with
  | agg l=>simp only[CB] at F;obtain⟨K,_⟩:=LP l J F;subst K;intro c H;obtain⟨x,_,rfl⟩:=Xa0.1 H;exact A1 ob x
  | _=>simp only[CB,X24] at F;subst F;intro c H;rw[X14.1 H];exact h
 | agg l=>simp only[CB,X24] at F;subst F;intro c H r M;obtain⟨j,Q,rfl⟩:=Wz H;exact h r (AV.rv l j Q r M)
 | ref=>simp only[CB,X24] at F;subst F;intro c H;rw[X14.1 H];exact h
 | own=>simp only[CB,X24] at F;subst F;intro c H;rw[X14.1 H];exact h
 | mp=>simp only[CB,X24] at F;subst F;intro c H;rw[X14.1 H];exact h
 | fn=>simp only[CB,X24] at F;subst F;intro c H;rw[X14.1 H];exact h
 | _=>simp[CB] at F
def Di {t:Nat}{d:TypeDesc}(F:P.underlying t=some d)(H:d.isRow=false){b o:Nat}{v:A}(h:cellAt w b o=some v) : (loadVar t ⟨b,o,none⟩).run P w=.ok v w:=by have:w.cell? ⟨b,o,none⟩=some v:=h;simp[loadVar,Nz F,H,this]
def I2 {t:Nat}{H:TI}(F:ud P t H)(J:H.kind.sG=some true){b o:Nat}{vs:O A}(K:vs.length=H.size) (h :∀j v,vs[j]?=some v->cellAt w b (o+j)=some v):(loadVar t ⟨b,o,none⟩).run P w=.ok (.agg vs.toArray) w:=by obtain⟨d,M,Q⟩:=F.kind.row J;exact run_loadVar_mid w b o t vs d h M Q (by rw[F.uj,K])
def OJ {obl:O (C OB)}(hT:rc P T)(m:Mem E w S φ (λr=>obl.getD r none)){t:Nat}{a:AV}{v:A}{K:AV->Prop}(ha:gM S w φ (λr=>obl.getD r none) a v) (hc:gO (λr=>obl.getD r none) a) (h:U5 T t a obl K) : ∃out u,K out/\(Xcg t v).run P w=.ok u w/\gM S w φ (λr=>obl.getD r none) out u/\gO (λr=>obl.getD r none) out:=by
 cases a<;>simp only[U5] at h;case ref r off=>
  obtain⟨b,c,Q,rfl⟩:=ha.vV;rw[An] at h;obtain⟨o,ho,h⟩:=h;cases o with
  | row=>simp at h
  | map=>simp at h
  | rK=>simp at h
  | gone=>simp at h
  | box cs=>
   simp only at h;obtain⟨b',c',vs,e,f,g1,g2,g3,g4,g5,g6⟩:=m.obj r _ ho;rw[Q] at g1;simp only[X24,X26] at g1;obtain⟨rfl,rfl⟩:=g1;have H :∀j,j<cs.length->cellAt w b j=some (f j):=λj hj=>by rw[BB g2];exact g5 j hj
   have ab :∀c∈cs,gO (λr=>obl.getD r none) c:=λc hm r' a6=>by obtain⟨j,hj,rfl⟩:=Wz hm;exact m.tE r _ ho r' (by simpa[OB.refs] using AV.rv cs j hj r' a6)
   cases F:(T.get t).kind.sG with
   | none=>simp[F] at h
   | some q=>
    have J:=hT.of (t:=t) (by rw[F];simp);cases q with
    | true=>
     simp only[F,GR,AH,FT,GP,Nat.ble_eq] at h;obtain⟨aa,hK⟩:=h;simp only[X17] at aa;let Z:O A:=(Xb4 (T.get t).size).map λj=>f (off+j);have a1:((cs.drop off).take (T.get t).size).length=(T.get t).size:=by simp;omega
     refine⟨_,.agg Z.toArray,hK,?_,?_,?_⟩
     ·simp only[Xcg,Xbu,Xa9,Xbz,Xa1];refine I2 J F (by simp[Z]) λj u Y=>?_;simp only[Z,Xd5,Xc2] at Y;obtain⟨j',a7,rfl⟩:=Y;obtain⟨M,U⟩:=X16.1 a7;simp at M U;subst U;exact H _ (by omega)
     ·refine M9 (by rw[a1];simp[Z]) λi hi=>⟨f (off+i),?_,?_,?_⟩
      ·rw[a1] at hi;simp[Z,hi]
      ·simp only[Xbg,Xbh];rw[a1] at hi;exact (g6 (off+i) (by omega)).1
      simp only[Xbg,Xbh];rw[a1] at hi;exact (g6 (off+i) (by omega)).2
     exact H9 λc hm=>ab c (List.mem_of_mem_drop (Xce hm))
    | false=>
     simp only[F] at h;cases hg:cs[off]? with
     | none=>simp[hg] at h
     | some x=>simp only[hg,BH] at h;obtain⟨M,U⟩:=X16.1 hg;obtain⟨d,Y,hd⟩:=J.kind.plain F;refine⟨x,f off,h,?_,U▸(g6 off M).2,ab x (Xay hg)⟩;simp only[Xcg,Xbu,Xa9,Xbz,Xa1,Di Y hd (H off M)]
 case sT cs=>
  cases ha with|sT _ b o f hS hn hr=>
   cases F:(T.get t).kind.sG with
   | none=>simp[F] at h
   | some q=>
    have J:=hT.of (t:=t) (by rw[F];simp);cases q with
    | true=>
     simp only[F,AH,FT,Nat.ble_eq] at h;obtain⟨aa,hK⟩:=h;let Z:O A:=(Xb4 (T.get t).size).map λj=>f j;refine⟨_,.agg Z.toArray,hK,?_,?_,A1 _ _⟩
     ·simp only[Xcg,Xbu,Xa9,Xbz,Xa1];refine I2 J F (by simp[Z]) λj u Y=>?_;simp only[Z,Xd5,Xc2] at Y;obtain⟨j',a7,rfl⟩:=Y;obtain⟨M,U⟩:=X16.1 a7;simp at M U;subst U;exact (hS _ (by omega)).2
     refine .d _ _ (.agg _ _ f (by simp[Z];omega) (λi hi=>?_) (λi hi=>?_) λi hi=>?_)
     ·simp only[X18] at hi;have:=Xap hi (Nat.min_le_left _ _);simp[Z,this]
     ·simp only[Xbg];exact hn i _
     simp only[Xbg];exact hr i _
    | false=>
     simp only[F] at h;cases hg:cs[0]? with
     | none=>simp[hg] at h
     | some x=>simp only[hg] at h;obtain⟨M,U⟩:=X16.1 hg;obtain⟨d,Y,hd⟩:=J.kind.plain F;refine⟨.d x,f 0,h,?_,U▸.d _ _ (hr 0 M),A1 _ _⟩;simp only[Xcg,Xbu,Xa9,Xbz,Xa1,Di Y hd (by simpa using (hS 0 M).2)]
 case sh r n i k=>
  rw[An] at h;obtain⟨o,ho,h⟩:=h;cases o with
  | box cs=>
   simp only at h;cases F:(T.get t).kind.sG with
   | none=>simp[F] at h
   | some q=>
    cases q with
    | true=>simp[F] at h
    | false=>
     simp only[F,BH] at h;obtain⟨x,hg,h⟩:=h;have J:=hT.of (t:=t) (by rw[F];simp);obtain⟨b',c',vs,e,f,g1,g2,g3,g4,g5,g6⟩:=m.obj r _ ho;cases ha with|sh _ _ _ _ _ M hb hp=>
     obtain⟨b,c,Q,rfl⟩:=hb cs ho;rw[Q] at g1;simp only[X24,X26] at g1;obtain⟨rfl,rfl⟩:=g1;obtain⟨p1,p2⟩:=X16.1 hg;obtain⟨d,Y,hd⟩:=J.kind.plain F;have H:cellAt w b (k+i)=some (f (k+i)):=by rw[BB g2];exact g5 _ p1
     refine⟨x,f (k+i),h,?_,p2▸(g6 _ p1).2,λr' a6=>?_⟩
     ·simp only[Xcg,Xbu,Xa9,Xbz,Xa1,Di Y hd H]
     rw[<- p2] at a6;exact m.tE r _ ho r' (by simpa[OB.refs] using AV.rv cs (k+i) p1 r' a6)
  | map=>simp at h
  | rK=>simp at h
  | gone=>simp at h
  | row e sz es ae=>
   have h:Lr T t n i k es K \/∃q m,ae=.lk i k q m/\n=es.length/\i<es.length/\k<sz/\(T.get t).kind.sG=some false/\K (.own q m):=by
    simp only at h;cases ae with
    | no=>exact .inl h
    | sQ=>exact .inl h
    | lk i' j q m=>
     rcases h with h|⟨M,rfl,rfl,h4,h5,h6,h7⟩
     ·exact .inl h
     exact .inr ⟨q,m,rfl,M,h4,h5,h6,h7⟩
   rcases h with h|⟨q,m',rfl,hn,V,af,F,hK⟩;rotate_left
   ·cases ha with|sh _ _ _ _ _ M hb hp=>
    obtain⟨_,U⟩:=M e sz es _ ho;obtain⟨hi,b,c,Q,rfl⟩:=U hn;obtain⟨g0,g1,g2,g3⟩:=m.obj r _ ho;rcases g3 with ⟨f1,_⟩|⟨b',ag,vs,f,f1,f2,f3,f4,f5,f6,f7,f8⟩
    ·rw[Q] at f1;simp at f1
    rw[Q] at f1;simp only[X24,X26] at f1;obtain⟨rfl,rfl⟩:=f1;have J:=hT.of (t:=t) (by rw[F];simp);obtain⟨d,Y,hd⟩:=J.kind.plain F;have H:cellAt w b (c.2+(i*sz+k))=some (f i k):=by rw[BB f2];exact f6 i k V af
    refine⟨_,f i k,hK,?_,f8.2 i k q m' rfl V af,λr' a6=>m.tE r _ ho r' (by simpa[OB.refs,AV.refs] using a6)⟩;simp only[Xcg,Xbu,Xa9,Xbz,Xa1,Di Y hd H]
   obtain⟨hn,x,hx,h⟩:=h;cases ha with|sh _ _ _ _ _ M hb hp=>
    obtain⟨_,U⟩:=M e sz es ae ho;obtain⟨hi,b,c,Q,rfl⟩:=U hn;obtain⟨g0,g1,g2,g3⟩:=m.obj r _ ho;rcases g3 with ⟨f1,_⟩|⟨b',ag,vs,f,f1,f2,f3,f4,f5,f6,f7,f8⟩
    ·rw[Q] at f1;simp at f1
    rw[Q] at f1;simp only[X24,X26] at f1;obtain⟨rfl,rfl⟩:=f1;have V:i<es.length:=by omega
    have ah:x=es[i]:=by rw[<- hx];simp[V]
    subst ah;have a8:=g1 i V;have H :∀j,j<sz->cellAt w b (c.2+(i*sz+j))=some (f i j):=λj hj=>by rw[BB f2];exact f6 i j V hj
    rw[GR] at h;cases F:(T.get t).kind.sG with
    | none=>simp[F] at h
    | some q=>
     have J:=hT.of (t:=t) (by rw[F];simp);cases q with
     | true=>
      simp only[F,AH,FT,Nat.ble_eq] at h;obtain⟨aa,hK⟩:=h;simp only[X17,a8] at aa;let Z:O A:=(Xb4 (T.get t).size).map λj=>f i (k+j);refine⟨_,.agg Z.toArray,hK,?_,?_,A1 _ _⟩
      ·simp only[Xcg,Xbu,Xa9,Xbz,Xa1];refine I2 J F (by simp[Z]) λj u Y=>?_;simp only[Z,Xd5,Xc2] at Y;obtain⟨j',a7,rfl⟩:=Y;obtain⟨M,U⟩:=X16.1 a7;simp at M U;subst U;rw[Xb9,Xb9];exact H _ (by omega)
      refine .d _ _ (.agg _ _ (λj=>f i (k+j)) (by simp[Z,a8];omega) (λj hj=>?_) (λj hj=>?_) λj hj=>?_)
      ·simp only[X18] at hj;have:=Xap hj (Nat.min_le_left _ _);simp[Z,this]
      ·simp only[Xbg,Xbh];exact g2 i V _ _
      simp only[Xbg,Xbh];exact f7 i V _ _
     | false=>
      simp only[F] at h;cases hg:(es[i].cells.drop k)[0]? with
      | none=>simp[hg] at h
      | some y=>
       simp only[hg] at h;obtain⟨M,U⟩:=X16.1 hg;simp[a8] at M;obtain⟨d,Y,hd⟩:=J.kind.plain F;refine⟨.d y,f i k,h,?_,?_,A1 _ _⟩
       ·simp only[Xcg,Xbu,Xa9,Xbz,Xa1,Di Y hd (H k (by omega))]
       simp only[Xbh,Xch] at U;subst U;exact .d _ _ (f7 i V k _)
def jC (obl:O (C OB))(r:Nat)(x:OB)(h:r<obl.length):(λi=>(obl.set r (some x)).getD i none)=rJ (λi=>obl.getD i none) r (some x):=by
 funext i;by_cases F:i=r
 ·subst F;simp[h]
 rw[AO _ _ _ _ F];simp[Xcf (Ne.symm F)]
def Rx (m:Mem E w S φ ob){self:Nat}{F:O AV}{v:A}(e:Nat)(H:ob self=none)(V:v.cells.size=F.length) (h :∀i (hi:i<F.length),∃u,v.cells[i]?=some u/\F[i].one=true/\gM S w φ ob F[i] u) (U :∀c∈F,gO ob c) : s6 E w S φ ob (.ref self 0) [(self,.box F)] (.pointer (some ⟨w.heap.size,0,none⟩)) (w.alloc (.cells v.cells e)):=by
 obtain⟨Y,Z⟩:=m.alloc self (0,0) (.box F) v.cells e H (λr K=>by
  obtain⟨c,J,Q⟩:=AV.sf F r (by simpa[OB.refs] using K);exact U c J r Q) (λhk=>by
  refine⟨w.heap.size,(0,0),v.cells,e,λj=>v.cells.getD j Xc3,gL _ _ _,heap_alloc_new w _,V,λo ho=>?_,λj M=>?_,λj M=>?_⟩
  ·exact absurd (m.bS _ _ ho) (Nat.lt_irrefl _)
  ·obtain⟨u,J,_⟩:=h j M;simp[J]
  obtain⟨u,J,Q,h3⟩:=h j M;refine⟨Q,?_⟩;have:=hk.tZ (U _ (Wx M)) h3
  simpa[J] using this)
 refine⟨S,_,Y,Z,.ref self 0 w.heap.size (0,0) (gL _ _ _) (λe' sz es a1 hx=>?_),λr K=>?_⟩
 ·simp[Ag] at hx
 simp only[AV.refs,X14] at K;subst K;simp[Ag]
def X2 {t:Nat}{F:TI}(h:ud P t F){i:TypeInfo}{z:A}(V:P.info? t=some i)(Y:i.zero=some z)(S:Sc)(w:B)(φ:Nat->C (Nat×Rp))(ob:Nat->C OB) : z.cells.size=(F.zero.map AV.d).length/\F.zero.length=F.size/\∀j (K:j<(F.zero.map AV.d).length),∃u,z.cells[j]?=some u/\(F.zero.map AV.d)[j].one=true/\gM S w φ ob (F.zero.map AV.d)[j] u:=by
 obtain⟨i',z',M,h2,h3,Q,Z,U,h7⟩:=h.sV;rw[V] at M;obtain rfl:=X25 M;rw[Y] at Q;obtain rfl:=X25 Q;refine⟨by simp[Z,U],U,λj K=>?_⟩;have J:j<F.zero.length:=by simpa using K
 have H:j<z.cells.size:=by omega
 refine⟨z.cells[j],by simp[H],?_⟩;have:=h7 j J z.cells[j] (by simp[H]);simp only[Xas];generalize F.zero[j]=x at this;generalize z.cells[j]=u at this;cases x with
 | val v=>obtain⟨rfl,h⟩:=this;exact⟨rfl,.d _ _ (.val _ h)⟩
 | nil=>simp only[IH] at this;subst this;exact⟨rfl,.d _ _ (.nil _)⟩
 | agg=>simp[IH] at this
 | su=>simp[IH] at this
def BG {α:Type}(F:O α)(n:Nat)(vs:O α):O α:=F.take n++vs++F.drop (n+vs.length)
def BN {α:Type}(F:O α)(n:Nat)(vs:O α)(h:n+vs.length<=F.length):(BG F n vs).length=F.length:=by simp[BG];omega
def EA {α:Type}(F:O α)(n:Nat)(vs:O α)(h:n+vs.length<=F.length)(j:Nat) : (BG F n vs)[j]?=if n<=j/\j<n+vs.length then vs[j-n]? else F[j]?:=by
 unfold BG;rw[Xau,List.getElem?_append];simp only[X18,Nat.min_eq_left (show n<=F.length by omega)];split
 ·rw[Xj (by omega),List.getElem?_take_of_lt (by assumption)]
 rw[List.getElem?_append];split
 ·rw[Xy (by omega)]
 rw[Xj (by omega),List.getElem?_drop];congr 1;omega
def JL {t:Nat}{v:A}{b o:Nat}{e:Nat}{F:Array A}(hg:w.heap[b]?=some (.cells F e (0,0)))(J:(P.info? t).map (·.size)=some v.cells.size) (K:o+v.cells.size<=F.size) (M :∀u∈v.cells.toList,u.oneCell'=true) : (Instr.storeAt t (.pointer (some ⟨b,o,none⟩)) v).run P w=.ok () (w.setRow b (BG F.toList o v.cells.toList).toArray):=by
 have:=run_storeCells_at P b o e v.cells.toList 0 F w hg (by simpa using K) M;simp only[Xch] at this;cases H:P.info? t with
 | none=>simp[H] at J
 | some i=>
  have Q:v.cells.size=i.size:=by simp[H] at J;omega
  simp[Instr.storeAt,Xbu,storeVar,sizeOf,typeInfo,H,Q,this,BG]
def IC (w:B)(b:Nat)(F:Array A):(∀k,k≠b->(w.setRow b F).heap[k]?=w.heap[k]?)/\(w.setRow b F).heap.size=w.heap.size/\ ((w.setRow b F).os=w.os/\(w.setRow b F).output=w.output/\(w.setRow b F).tape=w.tape/\w.drawn<=(w.setRow b F).drawn):=
 ⟨λk H=>setRow_other w b k F H,size_setRow w b F,rfl,rfl,rfl,Xa8 _⟩
def cells_one {v:A}{F:O AV}(K:v.cells.size=F.length)(h :∀i (H:i<F.length),∃u,v.cells[i]?=some u/\F[i].one=true/\gM S w φ ob F[i] u) : ∀u∈v.cells.toList,u.oneCell'=true:=by
 intro u M;obtain⟨i,H,rfl⟩:=Wz M;have J:i<F.length:=by simpa[K] using H
 obtain⟨u,Q,U,V⟩:=h i J;have:u=v.cells.toList[i]:=by
  have:v.cells.toList[i]?=some u:=by simpa using Q
  rw[X15 H] at this;exact (X25 this).symm
 rw[<- this];exact V.one U
def Oq (m:Mem E w S φ ob){t r off:Nat}{H vs:O AV}{v:A}{b:Nat}{c:Rp}(Q:φ r=some (b,c))(Y:ob r=some (.box H))(hi:(P.info? t).map (·.size)=some vs.length) (hs:v.cells.size=vs.length) (h :∀i (hi:i<vs.length),∃u,v.cells[i]?=some u/\vs[i].one=true/\gM S w φ ob vs[i] u) (hc :∀c∈vs,gO ob c) (a7:off+vs.length<=H.length) : ∃w',(Instr.storeAt t (.pointer (some ⟨b,off,none⟩)) v).run P w=.ok () w'/\s6 E w S φ ob .dead [(r,.box (BG H off vs))] Xc3 w':=by
 obtain⟨b',c',F,e,f,g1,g2,g3,g4,g5,g6⟩:=m.obj r _ Y;rw[Q] at g1;simp only[X24,X26] at g1;obtain⟨rfl,rfl⟩:=g1;have s7:off+v.cells.toList.length<=F.toList.length:=by simp;omega
 refine⟨_,JL g2 (by rw[hi,hs]) (by omega) (cells_one hs h),?_⟩;obtain⟨q1,q2,q3⟩:=IC w b (BG F.toList off v.cells.toList).toArray;have hh:=setRow_heap w b F (BG F.toList off v.cells.toList).toArray e (0,0) g2;have Z :∀K∈(OB.box (BG H off vs)).refs,ob K≠none:=by
  intro K a1;obtain⟨x,M,h2⟩:=AV.sf _ K (by simpa[OB.refs] using a1);simp only[BG,X23] at M;rcases M with (M|M)|M
  ·obtain⟨j,J,rfl⟩:=Wz (Xce M);exact m.tE r _ Y K (by simpa[OB.refs] using AV.rv H j J K h2)
  ·exact hc x M K h2
  obtain⟨j,J,rfl⟩:=Wz (List.mem_of_mem_drop M);exact m.tE r _ Y K (by simpa[OB.refs] using AV.rv H j J K h2)
 have U:(BG H off vs).length=H.length:=BN _ _ _ a7;have:=m.set r _ (.box (BG H off vs)) (w.setRow b (BG F.toList off v.cells.toList).toArray) (φ r) Y (λk hk a8=>q1 k λe=>a8 c (by rw[e];exact Q)) (by omega) q3
  (λb' c' o hb hS=>by rw[Q] at hb;simp only[X24,X26] at hb;rw[<- hb.1] at hS;exact absurd hS (g4 o)) (.inl rfl)
  (.inl ⟨gL _ _ _,by simp[Y,tz],λ_=>⟨H,Y⟩⟩) Z (λhk=>by
   refine⟨b,c,_,e,λj=>(BG F.toList off v.cells.toList).getD j Xc3,by rw[gL];exact Q,hh,?_,g4,λj J=>?_,λj J=>?_⟩
   ·simp only[Xbo];rw[BN _ _ _ s7,U];simpa using g3
   ·rw[U] at J;have:j<(BG F.toList off v.cells.toList).length:=by rw[BN _ _ _ s7];simp;omega
    simp[this]
   rw[U] at J;have e1:=EA H off vs a7 j;have e2:=EA F.toList off v.cells.toList s7 j;have aa:j<(BG H off vs).length:=by rw[U];exact J
   rw[X15 aa] at e1;simp only[Xal,hs] at e2;by_cases V:off<=j/\j<off+vs.length
   ·rw[Xy V,X15 (by omega)] at e1;rw[Xy V] at e2;obtain⟨u,M,h2,h3⟩:=h (j-off) (by omega);have a6:v.cells.toList[j-off]?=some u:=by simpa using M
    simp only[X24] at e1;rw[e1];refine⟨h2,?_⟩;have:=hk.tZ (hc _ (Wx (h:=by omega))) h3;simp only[Wq,e2,a6,Xao];exact this
   rw[Xj V,X15 J] at e1;rw[Xj V] at e2;simp only[X24] at e1;rw[e1];refine⟨(g6 j J).1,?_⟩;have:=hk.tZ (a:=H[j]) (λK a1=>m.tE r _ Y K (by simpa[OB.refs] using AV.rv H j J K a1)) (g6 j J).2;have a6:F.toList[j]?=some (f j):=by simpa using g5 j J
   simp only[Wq,e2,a6,Xao]
   exact this)
 have hu:rJ φ r (φ r)=φ:=by funext i;by_cases hi:i=r<;>simp[rJ,hi]
 rw[hu] at this;exact⟨S,φ,this.1,this.2,.dead _,FB _⟩
def D.tw {x:D}(h:x.isAgg=false):x.cells=[x]:=by cases x<;>first|rfl|simp[D.isAgg] at h
def rH.cells {x:D}{v:A}(h:rH S w x v):v.cells.size=x.cells.length/\∀i (F:i<x.cells.length),∃u,v.cells[i]?=some u/\x.cells[i].isAgg=false/\rH S w x.cells[i] u:=by
 by_cases H:x.isAgg=true
 ·cases x with
  | agg V=>cases h with|agg _ vs f J K M Q=>exact⟨by simp[Xdj,J,D.cells],λi F=>⟨f i,K i F,M i F,Q i F⟩⟩
  | _=>simp[D.isAgg] at H
 have H:x.isAgg=false:=by simpa using H
 have U:v.cells=#[v]:=by have:=h.one H;cases v<;>first|rfl|simp[Value.oneCell'] at this
 rw[D.tw H,U];refine⟨rfl,λi F=>⟨v,?_,?_,?_⟩⟩
 ·have:i=0:=by simpa using F
  simp[this]
 ·simpa using H
 simpa using h
def rH.norm {x:D}{v:A}(h:rH S w x v):rH S w x.norm v:=by
 cases h with
 | val v h=>exact .val v h
 | nil sz=>exact .sB sz _ _
 | sB sz a F=>exact .sB sz a F
 | su sz U b o F f V Y s7 Z M Q=>exact .su sz U b o F f V Y s7 Z M Q
 | agg K vs f hs hf M Q=>
  refine .agg _ vs f (by simpa using hs) (λi J=>hf i (by simpa using J)) (λi J=>?_) λi J=>?_
  ·have H:i<K.length:=by simpa using J
   have:=M i H;simp only[Xas];revert this;cases K[i]<;>simp[D.isAgg]
  have H:i<K.length:=by simpa using J
  have:=Q i H;simp only[Xas];revert this;generalize K[i]=y;generalize f i=u;cases y with
  | nil sz=>intro h;cases h;exact .sB sz _ _
  | _=>intro h;exact h
def D.tf (x:D):x.norm.cells.length=x.cells.length:=by cases x<;>simp[D.norm,D.cells]
def JR (m:Mem E w S φ ob){t r i k e sz:Nat}{es:O D}{x y:D}{v:A}{b:Nat}{c:Rp}(V:φ r=some (b,c)){fz fz':FZ}(ho:ob r=some (.row e sz es fz))(aa:fz.frozen=false)(ar:fz'.frozen=false)(hi:(P.info? t).map (·.size)=some x.cells.length) (ab :∀i' j q n,fz'=.lk i' j q n->i'=i/\j=k/\ob q≠none/\v.cells=#[v]/\gM S w φ ob (.own q n) v) (hx:rH S w x v) (Y:i<es.length) (ae:k+x.cells.length<=sz) (hy:y.cells=BG es[i].cells k x.cells) : ∃w',(Instr.storeAt t (.pointer (some ⟨b,c.2+(i*sz+k),none⟩)) v).run P w=.ok () w'/\s6 E w S φ ob .dead [(r,.row e sz (es.set i y) fz')] Xc3 w':=by
 obtain⟨g0,g1,g2,g3⟩:=m.obj r _ ho;rcases g3 with ⟨f1,_⟩|⟨b',au,F,f,f1,f2,f3,f4,f5,f6,f7,f8⟩
 ·rw[V] at f1;simp at f1
 rw[V] at f1;simp only[X24,X26] at f1;obtain⟨rfl,rfl⟩:=f1;obtain⟨x1,x2⟩:=hx.cells;have af:(i+1)*sz<=c.1*sz:=X31 _ (by omega);rw[X32] at af;have h1 :∀u∈v.cells.toList,u.oneCell'=true:=by
  intro u hu;obtain⟨j,J,rfl⟩:=Wz hu;have K:j<x.cells.length:=by simpa[x1] using J
  obtain⟨u,q1,q2,q3⟩:=x2 j K;have:v.cells.toList[j]?=some u:=by simpa using q1
  rw[X15 J] at this;rw[X25 this];exact q3.one q2
 have Q:(c.2+(i*sz+k))+v.cells.toList.length<=F.toList.length:=by simp;omega
 refine⟨_,JL f2 (by rw[hi,x1]) (by omega) h1,?_⟩;obtain⟨q1,q2,q3⟩:=IC w b (BG F.toList (c.2+(i*sz+k)) v.cells.toList).toArray;have hh:=setRow_heap w b F (BG F.toList (c.2+(i*sz+k)) v.cells.toList).toArray e (0,0) f2;have a7:y.cells.length=sz:=by rw[hy,BN _ _ _ (by rw[g1 i Y];exact ae),g1 i Y]
 have a8 :∀j (J:j<(es.set i y).length),(es.set i y)[j]=if i=j then y else es[j]'(by simpa using J):=λj J=>by rw[List.getElem_set]
 have ak:=EA es[i].cells k x.cells (by rw[g1 i Y];exact ae);have:=m.set r _ (.row e sz (es.set i y) fz') (w.setRow b (BG F.toList (c.2+(i*sz+k)) v.cells.toList).toArray) (φ r) ho (λk hk al=>q1 k λe=>al c (by rw[e];exact V)) (by omega) q3
  (λb' c' o hb hS=>by rw[V] at hb;simp only[X24,X26] at hb;rw[<- hb.1] at hS;exact absurd hS (f8.1 o (by simp[aa]))) (.inl rfl)
  (.inl ⟨gL _ _ _,by simp[ho,tz],λh=>by simp at h⟩) (λr' Z=>by
   cases hq:fz' with
   | no=>simp[OB.refs,hq] at Z
   | sQ=>simp[OB.refs,hq] at Z
   | lk i' j q n=>
    simp only[OB.refs,hq,FZ.tU,X14] at Z;rw[Z];exact (ab _ _ _ _ hq).2.2.1) (λhk=>by
   have a1 :∀j (J:j<y.cells.length),y.cells[j].isAgg=false/\∃u,(if k<=j/\j<k+x.cells.length then v.cells[j-k]? else some (f i j))=some u/\rH S (w.setRow b (BG F.toList (c.2+(i*sz+k)) v.cells.toList).toArray) y.cells[j] u:=by
    intro j J;have e1:=ak j;rw[<- hy,X15 J] at e1;by_cases M:k<=j/\j<k+x.cells.length
    ·rw[Xy M] at e1⊢;rw[X15 (by omega)] at e1;obtain⟨u,p1,p2,p3⟩:=x2 (j-k) (by omega);rw[X25 e1];exact⟨p2,u,p1,p3.mono hk.k⟩
    rw[Xj M] at e1⊢;rw[X15 (by rw[g1 i Y];omega)] at e1;rw[X25 e1];exact⟨g2 i Y j (by rw[g1 i Y];omega),f i j,rfl,(f7 i Y j (by rw[g1 i Y];omega)).mono hk.k⟩
   refine⟨g0,λj J=>?_,λj J l H=>?_,.inr ⟨b,c,_,λj l=>(BG F.toList (c.2+(i*sz+k)) v.cells.toList).getD (c.2+(j*sz+l)) Xc3,by rw[gL];exact V,hh,by simpa using f3,f4,?_,λj l J H=>?_,λj J l H=>?_,λo _=>f8.1 o (by simp[aa]),λi' j' q n hq ax K=>?_⟩⟩
   ·rw[a8 j J];split
    ·exact a7
    exact g1 j _
   ·have:=a8 j J;simp only[this] at H⊢;split at H
    ·rename_i U;simp only[U,Xdl];exact (a1 l H).1
    rename_i U;simp only[U,Xd0];exact g2 j _ l H
   ·simp only[Xbo];rw[BN _ _ _ Q];simpa using f5
   ·have K:j<es.length:=by simpa using J
    have:(j+1)*sz<=c.1*sz:=X31 _ (by omega);rw[X32] at this;have an:c.2+(j*sz+l)<(BG F.toList (c.2+(i*sz+k)) v.cells.toList).length:=by rw[BN _ _ _ Q];simp;omega
    simp[an]
   ·have K:j<es.length:=by simpa using J
    have ao:=a8 j J;have e2:=EA F.toList (c.2+(i*sz+k)) v.cells.toList Q (c.2+(j*sz+l));simp only[ao] at H⊢;simp only[Wq,e2];by_cases U:i=j
    ·subst U;simp only[Xdl] at H⊢;obtain⟨_,u,p1,p2⟩:=a1 l H;simp only[Xal,x1];have a6:(c.2+(i*sz+k)<=c.2+(i*sz+l)/\c.2+(i*sz+l)<c.2+(i*sz+k)+x.cells.length)↔(k<=l/\l<k+x.cells.length):=by omega
     by_cases M:k<=l/\l<k+x.cells.length
     ·rw[Xy M] at p1;rw[Xy (a6.2 M),show c.2+(i*sz+l)-(c.2+(i*sz+k))=l-k by omega];have:v.cells.toList[l-k]?=some u:=by simpa using p1
      rw[this];exact p2
     rw[Xj M] at p1;rw[Xj (λh=>M (a6.1 h))];have:F.toList[c.2+(i*sz+l)]?=some (f i l):=by simpa using f6 i l Y (by omega)
     rw[this];rw[X25 p1];exact p2
    simp only[U,Xd0] at H⊢;have ap:l<sz:=by rw[g1 j K] at H;exact H
    have ag:¬ (c.2+(i*sz+k)<=c.2+(j*sz+l)/\c.2+(j*sz+l)<c.2+(i*sz+k)+v.cells.toList.length):=by
     simp only[Xal,x1];rcases Nat.lt_or_ge i j with h|h
     ·have:(i+1)*sz<=j*sz:=X31 _ h;rw[X32] at this;omega
     have:(j+1)*sz<=i*sz:=X31 _ (by omega);rw[X32] at this;omega
    rw[Xj ag];have:F.toList[c.2+(j*sz+l)]?=some (f j l):=by simpa using f6 j l K ap
    rw[this];exact (f7 j K l H).mono hk.k
   obtain⟨rfl,rfl,aq,ah,ai⟩:=ab _ _ _ _ hq;have e2:=EA F.toList (c.2+(i'*sz+j')) v.cells.toList Q (c.2+(i'*sz+j'));rw[Xy (by simp[ah]),Nat.sub_self] at e2;have e3:(BG F.toList (c.2+(i'*sz+j')) v.cells.toList).getD (c.2+(i'*sz+j')) Xc3=v:=by rw[Wq,e2,ah];rfl
   simp only[e3]
   exact hk.tZ (λq' aj=>by simp only[AV.refs,X14] at aj;rw[aj];exact aq) ai)
 have hu:rJ φ r (φ r)=φ:=by funext i;by_cases hi:i=r<;>simp[rJ,hi]
 rw[hu] at this;exact⟨S,φ,this.1,this.2,.dead _,FB _⟩
def Mem.move (m:Mem E w S φ ob)(r self e sz:Nat)(es zs:O D)(h0:ob r=some (.row e sz es .no))(hs:ob self=none)(hz:zs <+: es) : Mem E w S (rJ (rJ φ r none) self (φ r)) (rJ (rJ ob r (some .gone)) self (some (.row e sz zs .no)))/\Kept w S φ ob w S (rJ (rJ φ r none) self (φ r)) (rJ (rJ ob r (some .gone)) self (some (.row e sz zs .no))):=by
 have a6:r≠self:=λhe=>by rw[he,hs] at h0;simp at h0
 have a7 :∀F,ob F≠none->F≠self:=λF h e=>h (e▸hs);have uL :∀F,F≠r->F≠self->rJ (rJ φ r none) self (φ r) F=φ F/\rJ (rJ ob r (some .gone)) self (some (.row e sz zs .no)) F=ob F:=λF h1 Q=>by rw[AO _ _ _ _ Q,AO _ _ _ _ h1,AO _ _ _ _ Q,AO _ _ _ _ h1];exact⟨rfl,rfl⟩
 have K:rJ (rJ ob r (some .gone)) self (some (.row e sz zs .no)) r=some .gone:=by rw[AO _ _ _ _ a6,gL]
 have a8:rJ (rJ φ r none) self (φ r) r=none:=by rw[AO _ _ _ _ a6,gL]
 have hk:Kept w S φ ob w S (rJ (rJ φ r none) self (φ r)) (rJ (rJ ob r (some .gone)) self (some (.row e sz zs .no))):=by
  refine⟨λb o h=>⟨h,rfl⟩,λF h=>?_,λF h=>?_⟩
  ·by_cases hh:F=r
   ·subst hh;exact .inr (.inr ⟨⟨_,_,_,_,h0⟩,by rw[K];rfl,λcs hx=>by rw[K] at hx;simp at hx⟩)
   obtain⟨e1,e2⟩:=uL F hh (a7 F h);exact .inl ⟨e1,by rw[e2],λh=>by rwa [e2] at h⟩
  by_cases hh:F=r
  ·rw[hh,K];simp
  rw[(uL F hh (a7 F h)).2];exact h
 obtain⟨g0,g1,g2,g3⟩:=m.obj r _ h0;have V:zs.length<=es.length:=hz.length_le;have M :∀i (U:i<zs.length),zs[i]=es[i]'(by omega):=λi U=>hz.getElem U;have pre :∀{F:Nat} {x:Nat×Rp},rJ (rJ ob r (some .gone)) self (some (.row e sz zs .no)) F≠none->rJ (rJ φ r none) self (φ r) F=some x->(F=self/\φ r=some x)\/(F≠self/\F≠r/\ob F≠none/\φ F=some x):=by
  intro F x h1 Q;by_cases H:F=self
  ·subst H;rw[gL] at Q;exact .inl ⟨rfl,Q⟩
  by_cases J:F=r
  ·subst J;rw[a8] at Q;simp at Q
  obtain⟨e1,e2⟩:=uL F J H;exact .inr ⟨H,J,by rwa [e2] at h1,by rwa [e1] at Q⟩
 have Y:ob r≠none:=by rw[h0];simp
 refine⟨⟨?_,?_,?_,m.sS,m.kS,m.bS,m.nS,m.fr,m.sz,?_,m.os⟩,hk⟩
 ·intro F o h;by_cases H:F=self
  ·subst H;simp only[gL,X24] at h;subst h
   refine⟨g0,λi U=>by rw[M i U];exact g1 _ _,λi U j Z=>by
    have:=M i U;simp only[this] at Z⊢
    exact g2 _ _ j Z,?_⟩
   rcases g3 with ⟨f1,f2⟩|⟨b,aa,vs,f,f1,f2,f3,f4,f5,f6,f7,f8⟩
   ·refine .inl ⟨by rw[gL];exact f1,?_⟩;rw[f2] at V;exact Xab (by simpa using V)
   refine .inr ⟨b,aa,vs,f,by rw[gL];exact f1,f2,by omega,f4,f5,λi j U Z=>f6 i j (by omega) Z,λi U j Z=>?_,λo _=>f8.1 o (by simp),λ_ _ _ _ h=>nomatch h⟩;have:=M i U;simp only[this] at Z⊢;exact f7 i (by omega) j Z
  by_cases J:F=r
  ·subst J;rw[K] at h;obtain rfl:=X25 h;trivial
  obtain⟨e1,e2⟩:=uL F J H;rw[e2] at h;exact (m.obj F o h).s9 hk e1 (λb c hb=>⟨rfl,λ_ h=>h⟩) (m.tE F o h)
 ·intro r1 r2 b c c' h1 Q k1 k2;rcases pre h1 k1 with ⟨rfl,a1⟩|⟨a1,a2,a3,a4⟩<;>rcases pre Q k2 with ⟨rfl,b1⟩|⟨b1,b2,b3,b4⟩
  ·rfl
  ·exact absurd (m.inj r2 r b c' c b3 Y b4 a1) b2
  ·exact absurd (m.inj r1 r b c c' a3 Y a4 b1) a2
  exact m.inj r1 r2 b c c' a3 b3 a4 b4
 ·intro F o h ab hm;by_cases H:F=self
  ·subst H;simp only[gL,X24] at h;subst h;simp[OB.refs] at hm
  by_cases J:F=r
  ·subst J;rw[K] at h;obtain rfl:=X25 h;simp[OB.refs] at hm
  rw[(uL F J H).2] at h;exact hk.c _ (m.tE F o h ab hm)
 intro F b c h g;rcases pre h g with ⟨rfl,a1⟩|⟨a1,a2,a3,a4⟩
 ·exact m.ow r b c Y a1
 exact m.ow F b c a3 a4
def Mem.uJ (m:Mem E w S φ ob)(r self e sz l:Nat)(es zs:O D)(p:C (Nat×Rp))(h0:ob r=some (.row e sz es .no))(hs:ob self=none)(hl:l+zs.length<=es.length)(hz :∀i (Y:i<zs.length),zs[i]=es[l+i]'(by omega)) (hp:(p=none/\zs=[]) \/∃b c Q,φ r=some (b,c)/\p=some (b,(Q,c.2+l*sz))/\zs.length<=Q/\l+Q<=c.1) : Mem E w S (rJ (rJ φ r none) self p) (rJ (rJ ob r (some .gone)) self (some (.row e sz zs .no)))/\Kept w S φ ob w S (rJ (rJ φ r none) self p) (rJ (rJ ob r (some .gone)) self (some (.row e sz zs .no))):=by
 have a7:r≠self:=λhe=>by rw[he,hs] at h0;simp at h0
 have a8 :∀F,ob F≠none->F≠self:=λF h e=>h (e▸hs);have uL :∀F,F≠r->F≠self->rJ (rJ φ r none) self p F=φ F/\rJ (rJ ob r (some .gone)) self (some (.row e sz zs .no)) F=ob F:=λF M H=>by rw[AO _ _ _ _ H,AO _ _ _ _ M,AO _ _ _ _ H,AO _ _ _ _ M];exact⟨rfl,rfl⟩
 have U:rJ (rJ ob r (some .gone)) self (some (.row e sz zs .no)) r=some .gone:=by rw[AO _ _ _ _ a7,gL]
 have aa:rJ (rJ φ r none) self p r=none:=by rw[AO _ _ _ _ a7,gL]
 have hk:Kept w S φ ob w S (rJ (rJ φ r none) self p) (rJ (rJ ob r (some .gone)) self (some (.row e sz zs .no))):=by
  refine⟨λb o h=>⟨h,rfl⟩,λF h=>?_,λF h=>?_⟩
  ·by_cases hh:F=r
   ·subst hh;exact .inr (.inr ⟨⟨_,_,_,_,h0⟩,by rw[U];rfl,λcs hx=>by rw[U] at hx;simp at hx⟩)
   obtain⟨e1,e2⟩:=uL F hh (a8 F h);exact .inl ⟨e1,by rw[e2],λh=>by rwa [e2] at h⟩
  by_cases hh:F=r
  ·rw[hh,U];simp
  rw[(uL F hh (a8 F h)).2];exact h
 obtain⟨g0,g1,g2,g3⟩:=m.obj r _ h0;have Z :∀{b:Nat} {x:Rp},p=some (b,x)->∃c,φ r=some (b,c):=by
  intro b x h;rcases hp with ⟨H,_⟩|⟨b',c,Q,M,H,_⟩
  ·rw[H] at h;simp at h
  rw[H] at h;simp only[X24,X26] at h;exact⟨c,h.1▸M⟩
 have pre :∀{F:Nat} {x:Nat×Rp},rJ (rJ ob r (some .gone)) self (some (.row e sz zs .no)) F≠none->rJ (rJ φ r none) self p F=some x->(F=self/\p=some x)\/(F≠self/\F≠r/\ob F≠none/\φ F=some x):=by
  intro F x M H;by_cases J:F=self
  ·subst J;rw[gL] at H;exact .inl ⟨rfl,H⟩
  by_cases K:F=r
  ·subst K;rw[aa] at H;simp at H
  obtain⟨e1,e2⟩:=uL F K J;exact .inr ⟨J,K,by rwa [e2] at M,by rwa [e1] at H⟩
 have a6:ob r≠none:=by rw[h0];simp
 refine⟨⟨?_,?_,?_,m.sS,m.kS,m.bS,m.nS,m.fr,m.sz,?_,m.os⟩,hk⟩
 ·intro F o h;by_cases J:F=self
  ·subst J;simp only[gL,X24] at h;subst h
   refine⟨g0,λi Y=>by rw[hz i Y];exact g1 _ _,λi Y j hj=>by
    have:=hz i Y;simp only[this] at hj⊢
    exact g2 _ _ j hj,?_⟩
   rcases g3 with ⟨f1,f2⟩|⟨b,ab,vs,f,f1,f2,f3,f4,f5,f6,f7,f8⟩
   ·rcases hp with ⟨H,h3⟩|⟨b',c,Q,M,_⟩
    ·exact .inl ⟨by rw[gL];exact H,h3⟩
    rw[f1] at M;simp at M
   rcases hp with ⟨M,H⟩|⟨b',c,Q,M,H,h3,h4⟩
   ·exact .inl ⟨by rw[gL];exact M,H⟩
   rw[f1] at M;simp only[X24,X26] at M;obtain⟨rfl,rfl⟩:=M;have ae:(l+Q)*sz<=ab.1*sz:=X31 _ h4;rw[X32] at ae;refine .inr ⟨b,(Q,ab.2+l*sz),vs,λi j=>f (l+i) j,by rw[gL];exact H,f2,h3,by simp only;omega,by simp only;omega,λi j Y hj=>?_,λi Y j hj=>?_,λo _=>f8.1 o (by simp),λ_ _ _ _ h=>nomatch h⟩
   ·have:=f6 (l+i) j (by omega) hj;rw[X32] at this;simp only;rw[<- this];congr 1;omega
   have:=hz i Y;simp only[this] at hj⊢;exact f7 (l+i) (by omega) j hj
  by_cases K:F=r
  ·subst K;rw[U] at h;obtain rfl:=X25 h;trivial
  obtain⟨e1,e2⟩:=uL F K J;rw[e2] at h;exact (m.obj F o h).s9 hk e1 (λb c hb=>⟨rfl,λ_ h=>h⟩) (m.tE F o h)
 ·intro r1 r2 b c Q M H k1 k2;rcases pre M k1 with ⟨rfl,V⟩|⟨V,a2,a3,a4⟩<;>rcases pre H k2 with ⟨rfl,b1⟩|⟨b1,b2,b3,b4⟩
  ·rfl
  ·obtain⟨c0,V⟩:=Z V;exact absurd (m.inj r2 r b Q c0 b3 a6 b4 V) b2
  ·obtain⟨c0,b1⟩:=Z b1;exact absurd (m.inj r1 r b c c0 a3 a6 a4 b1) a2
  exact m.inj r1 r2 b c Q a3 b3 a4 b4
 ·intro F o h af hm;by_cases J:F=self
  ·subst J;simp only[gL,X24] at h;subst h;simp[OB.refs] at hm
  by_cases K:F=r
  ·subst K;rw[U] at h;obtain rfl:=X25 h;simp[OB.refs] at hm
  rw[(uL F K J).2] at h;exact hk.c _ (m.tE F o h af hm)
 intro F b c h g;rcases pre h g with ⟨rfl,V⟩|⟨V,a2,a3,a4⟩
 ·obtain⟨c0,V⟩:=Z V;exact m.ow r b c0 a6 V
 exact m.ow F b c a3 a4
def rl (ob ob':Nat->C OB):Prop:=∀r,ob' r=ob r \/∃e sz F f,ob r=some (.row e sz F f)/\ob' r=some (.row e sz F .sQ)
def rl.refl (ob:Nat->C OB):rl ob ob:=λ_=>.inl rfl
def rl.row {ob ob':Nat->C OB}(h:rl ob ob'){r e sz:Nat}{es:O D}{f:FZ}(H:ob r=some (.row e sz es f)) :∃J,ob' r=some (.row e sz es J):=by
 rcases h r with F|⟨U,K,M,J,F,Q⟩
 ·exact⟨f,F.trans H⟩
 rw[H] at F;simp only[X24,OB.row.injEq] at F;obtain⟨rfl,rfl,rfl,rfl⟩:=F;exact⟨.sQ,Q⟩
def rl.rJ {ob ob':Nat->C OB}(h:rl ob ob'){r e sz:Nat}{es:O D}{f:FZ}(J:ob r=some (.row e sz es f)):rl ob (Go.AX.rJ ob' r (some (.row e sz es .sQ))):=by
 intro F;by_cases H:F=r
 ·subst H;rw[gL];exact .inr ⟨e,sz,es,f,J,rfl⟩
 rw[AO _ _ _ _ H];exact h F
def UP (obl:O (C OB))(wr:W):Prop:=∀r o,(r,o)∈wr->∃e sz F f,obl.getD r none=some (.row e sz F f)/\o=.row e sz F .sQ
def D8 {obl:O (C OB)}(m:Mem E w S φ ob)(M:rl (λr=>obl.getD r none) ob){a:AV}{v:A}{K:D->W->Prop}(ha:gM S w φ ob a v)(h:cW obl a K) : ∃x wr S',K x wr/\Mem E w S' φ (Ag ob wr)/\Kept w S φ ob w S' φ (Ag ob wr)/\rH S' w x v/\rl (λr=>obl.getD r none) (Ag ob wr)/\UP obl wr:=by
 have own :∀{S:Sc} {ob:Nat->C OB} (_:Mem E w S φ ob) (_:rl (λr=>obl.getD r none) ob) {r n:Nat} {v:A} {K:OB->Prop} (_:gM S w φ ob (.own r n) v) (_:CC obl r K),
   ∃o,K o/\∀e sz es f,o=.row e sz es f->n=es.length->∃S',Mem E w S' φ (rJ ob r (some (.row e sz es .sQ)))/\Kept w S φ ob w S' φ (rJ ob r (some (.row e sz es .sQ)))/\rH S' w (.su sz es) v/\
    rl (λr=>obl.getD r none) (rJ ob r (some (.row e sz es .sQ)))/\UP obl [(r,.row e sz es .sQ)]:=by
  intro S ob m M r n v K ha h;rw[An] at h;obtain⟨o,ho,J⟩:=h;refine⟨o,J,λe sz es f ai hn=>?_⟩;subst ai;obtain⟨f',ae⟩:=M.row ho;obtain⟨S',m',k',hd⟩:=m.freeze r e sz es f' ae;refine⟨S',m',k',hd v ?_,M.rJ ho,λr' o' U=>?_⟩
  ·cases ha with|own _ _ _ k c a0 hv hk h1 hb=>have:=(h1 e sz es f' ae).2 hn;rwa [<- hn]
  simp only[X14,X26] at U;obtain⟨rfl,rfl⟩:=U;exact⟨e,sz,es,f,ho,rfl⟩
 cases a<;>simp only[cW] at h;case d x=>rw[FY] at h;cases ha with|d _ _ ha=>exact⟨_,[],S,h,m,.refl w S φ ob,ha.norm,M,λ_ _ U=>by simp at U⟩
 case own r n=>
  obtain⟨o,J,hh⟩:=own m M ha h;cases o with
  | box=>simp at J
  | map=>simp at J
  | rK=>simp at J
  | gone=>simp at J
  | row e sz es f=>simp only at J;obtain⟨S',h1,h2,h3,h4,h5⟩:=hh e sz es f rfl J.1;exact⟨_,_,S',J.2,h1,h2,h3,h4,h5⟩
 case agg V=>
  cases ha with|agg _ vs f hs hf hn hr=>
  have key :∀(V:O AV) (F:Nat) (S:Sc) (ob:Nat->C OB) (_:Mem E w S φ ob) (_:rl (λr=>obl.getD r none) ob) (K:O D->W->Prop)
    (_ :∀i (H:i<V.length),gM S w φ ob V[i] (f (F+i))) (_:cW.toDs obl V K),
    ∃l wr S',K l wr/\l.length=V.length/\Mem E w S' φ (Ag ob wr)/\Kept w S φ ob w S' φ (Ag ob wr)/\(∀i (H:i<l.length),l[i].isAgg=false/\rH S' w l[i] (f (F+i)))/\
     rl (λr=>obl.getD r none) (Ag ob wr)/\UP obl wr:=by
   intro V;induction V with
   | nil=>intro F S ob m M K _ h;exact⟨[],[],S,h,rfl,m,.refl w S φ ob,λi H=>by simp at H,M,λ_ _ U=>by simp at U⟩
   | cons c V ih=>
    intro F S ob m M K hr h;have h0:=hr 0 (by simp);simp only[Xb5,Xch] at h0;have Z :∀i (H:i<V.length),gM S w φ ob V[i] (f (F+1+i)):=λi H=>by have:=hr (i+1) (by simpa using H);simpa[Xb9,Xci 1 i] using this
    have fin :∀(x:D) (l:O D) (S':Sc),x.isAgg=false->rH S' w x (f F)->(∀i (H:i<l.length),l[i].isAgg=false/\rH S' w l[i] (f (F+1+i)))->
      ∀i (H:i<(x::l).length),(x::l)[i].isAgg=false/\rH S' w (x::l)[i] (f (F+i)):=by
     intro x l S' h1 h2 h3 i H;cases i with
     | zero=>exact⟨h1,h2⟩
     | succ i=>have:=h3 i (by simpa using H);simpa[Xb9,Xci 1 i] using this
    cases c<;>simp only[cW.toDs] at h;case d x=>
     cases h0 with|d _ _ h0=>
     have ab:=h0.norm;cases x with
     | agg l=>simp at h
     | val u=>simp only at h;obtain⟨l,wr,S',a1,a2,a3,Q,Y,a6,a7⟩:=ih (F+1) S ob m M _ Z h;exact⟨_,wr,S',a1,by simp[a2],a3,Q,fin _ _ _ rfl (ab.mono Q.k) Y,a6,a7⟩
     | nil u=>simp only at h;obtain⟨l,wr,S',a1,a2,a3,Q,Y,a6,a7⟩:=ih (F+1) S ob m M _ Z h;exact⟨_,wr,S',a1,by simp[a2],a3,Q,fin _ _ _ rfl (ab.mono Q.k) Y,a6,a7⟩
     | su u v=>simp only at h;obtain⟨l,wr,S',a1,a2,a3,Q,Y,a6,a7⟩:=ih (F+1) S ob m M _ Z h;exact⟨_,wr,S',a1,by simp[a2],a3,Q,fin _ _ _ rfl (ab.mono Q.k) Y,a6,a7⟩
    case fn g af=>
     cases af with
     | cons=>simp at h
     | nil=>
      simp only at h;generalize hv:f F=vf at h0;cases h0 with|fn _ _ vs g' ao _ _=>
      have aj:vs=#[]:=by cases vs;simp_all
      subst aj;obtain⟨l,wr,S',a1,a2,a3,Q,Y,a6,a7⟩:=ih (F+1) S ob m M _ Z h;exact⟨_,wr,S',a1,by simp[a2],a3,Q,fin _ _ _ rfl (by rw[hv];exact .val _ rfl) Y,a6,a7⟩
    case own r n=>
     obtain⟨o,J,hh⟩:=own m M h0 h;cases o with
     | box=>simp at J
     | map=>simp at J
     | rK=>simp at J
     | gone=>simp at J
     | row e sz es fz=>
      simp only at J;obtain⟨S1,b1,b2,b3,b4,b5⟩:=hh e sz es fz rfl J.1;have ak :∀i (H:i<V.length),gM S1 w φ (rJ ob r (some (.row e sz es .sQ))) V[i] (f (F+1+i)):=λi H=>
       (Z i H).mono b2.k λr' an=>by
        by_cases ag:ob r'=none
        ·by_cases ah:r'=r
         ·subst ah;rw[An] at h;obtain⟨o',al,a8⟩:=h;have:=M.row (r:=r') (e:=e) (sz:=sz) (es:=es) (f:=fz);cases o' with
          | box=>simp at a8
          | map=>simp at a8
          | rK=>simp at a8
          | gone=>simp at a8
          | row e' ap aq f'=>obtain⟨ar,aa⟩:=M.row al;rw[ag] at aa;simp at aa
         refine .inl ⟨rfl,?_,?_⟩<;>rw[AO _ _ _ _ ah];exact id
        exact b2.r r' ag
      obtain⟨l,wr,S',a1,a2,a3,Q,Y,a6,a7⟩:=ih (F+1) S1 _ b1 b4 _ ak J.2;refine⟨_,(r,.row e sz es .sQ)::wr,S',a1,by simp[a2],a3,b2.trans Q,fin _ _ _ rfl (b3.mono Q.k) Y,a6,λr' o' U=>?_⟩;simp only[Wp] at U;rcases U with U|U
      ·exact b5 r' o' (by simp[U])
      exact a7 r' o' U
  obtain⟨l,wr,S',a1,a2,a3,Q,Y,a6,a7⟩:=key V 0 S ob m M _ (λi H=>by simpa using hr i H) h;refine⟨_,wr,S',a1,a3,Q,.agg l vs f (by omega) (λi H=>hf i (by omega)) (λi H=>(Y i H).1) (λi H=>by simpa using (Y i H).2),a6,a7⟩
end
end Go.AX
end
