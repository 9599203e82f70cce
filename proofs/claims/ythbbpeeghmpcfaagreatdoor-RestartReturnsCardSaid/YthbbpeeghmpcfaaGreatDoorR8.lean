/-
  Texts of one proof, packed.
-/
import Derived.Test.YthbbpeeghmpcfaaGreatDoorR7
import Derived.MapKept
set_option linter.all false
set_option maxRecDepth 100000
set_option maxHeartbeats 4000000
open List renaming length_map→X1,length_append→X2,mem_singleton→X11,length_drop→X14,length_take→X15,length_replicate→X17,length_set→X18,mem_append→X20
open Option.some renaming injEq→X21,inj→X22
open Prod.mk renaming injEq→X23
open Bool renaming and_eq_true→X24
open Nat renaming le_of_ble_eq_true→X26,eq_of_beq_eq_true→X27,mul_le_mul_right→X28,add_mul→X29
open List renaming replicate→Xaa
open Go.Builtin renaming zeroCells→Xac,append_→Xc0
open Go renaming run_underlying→Xae,undef→Xck,MapEntry→Xcq,typeInfo→Xdx,grownCap→Xec,maxLen→Xc7
open Nat renaming beq→Xal,blt→Xcu
open Go.Result renaming andThen_ok→Xaw
open Go.Sem renaming run_bind→Xb0,run_pure→Xdd
open Go.Instr renaming findNow→Xcn,sureAddr→Xd2,loadAt→Xdt
open Go.IntKind renaming i64→Xda
open Go.MapKept renaming run_getObj_map→Xdz
open Go.Value renaming cells→Xe2
section
namespace Go.AX
open MapKept
section
variable {P:Program} {T:TT} {E:Env} {w:B} {S:Sc} {φ:Nat->C (Nat×Rp)} {ob:Nat->C OB}
def LF (Q:xD P T){k:Nat}(U:JR (T.get k).kind=true)(K:A7 T k=true) :∃d,P.underlying k=some d/\(∀u,JX (T.get k).kind u=true->IsKey d u)/\ ∀(u F:A) (b:I),Cf (T.get k).kind (.val u) (.val F)=some b->Instr.sameNow d u F=some b/\(b=true->F=u):=by
 have h:=(Q.of (Ar K)).kind;cases M:(T.get k).kind<;>simp[M,JR] at U<;>rw[M] at h<;>simp only[zM] at h
 ·refine⟨_,h,λu J=>by cases u<;>simp[JX] at J<;>simp[IsKey],λu F b H=>?_⟩;cases u<;>cases F<;>simp[Cf] at H;subst H;exact⟨rfl,λe=>by simp at e;rw[e]⟩
 ·rename_i V;refine⟨_,h,λu J=>by cases u<;>simp[JX] at J<;>simp[IsKey,J],λu F b H=>?_⟩;cases u<;>cases F<;>simp[Cf] at H;obtain⟨rfl,rfl⟩:=H;exact⟨by simp[Instr.sameNow],λe=>by simp at e;rw[e]⟩
 refine⟨_,h,λu J=>by cases u<;>simp[JX] at J<;>simp[IsKey],λu F b H=>?_⟩;cases u<;>cases F<;>simp[Cf] at H;subst H;exact⟨rfl,λe=>by rw[(bytes_beq _ _).1 e]⟩
def zp.tail {p:D×D}{es:O (D×D)}{x:Xcq}{l:O Xcq}(h:zp S w (p::es) (x::l)):(∃u,p.1=.val u/\x.key=u/\u.oneCell'=true)/\zf S w p.2 x.val/\zp S w es l:=by obtain⟨H,F⟩:=h;obtain⟨y,e,a,b⟩:=F 0 (by simp);simp at e;subst e;refine⟨a,b,by simpa using H,λi J=>?_⟩;obtain⟨y,e,a,b⟩:=F (i+1) (by simpa using J);exact⟨y,by simpa using e,a,b⟩
def O6 {tk:TK}{d:TypeDesc}{u:A}(V :∀(J:A) (b:I),Cf tk (.val u) (.val J)=some b->Instr.sameNow d u J=some b/\(b=true->J=u)) : ∀(es:O (D×D)) (l:O Xcq) (off:Nat) (q:C D),zp S w es l->BG tk (.val u) es=some q-> (q=none/\Xcn d u l off=some none/\∀v,FA tk (.val u) v es=some (es++[(.val u,v)])) \/ ∃j x v,q=some v/\l[j]?=some x/\x.key=u/\j<es.length/\zf S w v x.val/\Xcn d u l off=some (some (off+j,x.val))/\∀v,FA tk (.val u) v es=some (es.set j (.val u,v))
 | [],[],off,q,_,F=>by simp[BG] at F;exact .inl ⟨F.symm,rfl,λv=>rfl⟩
 | [],_::_,_,_,h,_=>by simp[zp] at h
 | _::_,[],_,_,h,_=>by simp[zp] at h
 | p::es,x::l,off,q,h,F=>by
  obtain⟨⟨J,e1,e2,_⟩,Y,Z⟩:=h.tail;simp only[BG,e1] at F;cases H:Cf tk (.val u) (.val J) with
  | none=>simp[H] at F
  | some b=>
   obtain⟨K,s2⟩:=V J b H;cases b with
   | true=>simp only[H,X21] at F;exact .inr ⟨0,x,p.2,F.symm,rfl,by rw[e2];exact s2 rfl,by simp,Y,by simp[Xcn,e2,K],λv=>by simp[FA,e1,H]⟩
   | false=>
    simp only[H] at F;rcases O6 V es l (off+1) q Z F with ⟨M,Q,U⟩|⟨j,y,v,M,Q,U,g4,g5,g6,g7⟩
    ·exact .inl ⟨M,by simp[Xcn,e2,K,Q],λv=>by simp[FA,e1,H,U]⟩
    exact .inr ⟨j+1,y,v,M,by simpa using Q,U,by simp;omega,g5,by simp[Xcn,e2,K,g6];omega,λv=>by simp[FA,e1,H,g7]⟩
def TZ {tk:TK}{x v:D} :∀{es zs:O (D×D)},FA tk x v es=some zs->∃q,BG tk x es=some q
 | [],_,_=>⟨none,rfl⟩
 | p::es,zs,h=>by
  simp only[FA] at h;simp only[BG];cases F:Cf tk x p.1 with
  | none=>simp[F] at h
  | some b=>
   cases b with
   | true=>exact⟨_,rfl⟩
   | false=>simp only[F,Xb3] at h;obtain⟨H,J,_⟩:=h;exact TZ J
def TV {r k e:Nat}{es:O (D×D)}(h:F1 S w φ ob r (.map k e es)) :∃b c arr F,φ r=some (b,c)/\w.heap[b]?=some (.map arr F)/\((∀o,¬ S b o)/\Cu arr F)/\zp S w es arr.toList:=by obtain⟨b,c,arr,F,J,K,H,M,Q⟩:=h;exact⟨b,c,arr,F,J,K,⟨M,H.2⟩,by simpa using H.1,λi U=>by simpa using Q i U⟩
def PV {r k e H n:Nat}{J:A}{es:O (D×D)}(h:F1 S w φ ob r (.zj k e es J H n)) :∃b c arr F,φ r=some (b,c)/\w.heap[b]?=some (.map arr F)/\((∀o,¬ S b o)/\Cu arr F)/\zp S w es arr.toList/\ Ev J (kI S w φ ob (.own H n)) arr.toList:=by obtain⟨b,c,arr,F,M,Q,K,U,V,Y⟩:=h;exact⟨b,c,arr,F,M,Q,⟨U,K.2⟩,⟨by simpa using K.1,λi Z=>by simpa using V i Z⟩,Y⟩
def J8 (tk:TK)(u:A):Cf tk (.val u) (.val u)≠some false:=by cases tk<;>cases u<;>simp[Cf];exact (bytes_beq _ _).2 rfl
def QS {tk:TK}{d:TypeDesc}{u:A}{Q:A->Prop}(V :∀(H:A) (b:I),Cf tk (.val u) (.val H)=some b->Instr.sameNow d u H=some b/\(b=true->H=u)) : ∀(es:O (D×D)) (l:O Xcq) (off:Nat) (q:C D),zp S w es l->BG tk (.val u) es=some q->Ev u Q l->(q=none->Q (.slice none 0 0))/\∀p,Xcn d u l off=some (some p)->Q p.2
 | [],[],off,q,_,F,M=>⟨λ_=>M,λp J=>by simp[Xcn] at J⟩
 | [],_::_,_,_,h,_,_=>by simp[zp] at h
 | _::_,[],_,_,h,_,_=>by simp[zp] at h
 | p::es,x::l,off,q,h,F,M=>by
  obtain⟨⟨H,e1,e2,_⟩,hv,Z⟩:=h.tail;simp only[BG,e1] at F;cases K:Cf tk (.val u) (.val H) with
  | none=>simp[K] at F
  | some b=>
   obtain⟨Y,s2⟩:=V H b K;cases b with
   | true=>simp only[K,X21] at F;refine⟨λe=>by rw[<- F] at e;simp at e,λp J=>?_⟩;simp only[Xcn,e2,Y,X21] at J;rw[<- J];exact M.1 (by rw[e2];exact s2 rfl)
   | false=>
    simp only[K] at F;have U:x.key≠u:=λhe=>by rw[<- e2,he] at K;exact J8 _ _ K
    obtain⟨g1,g2⟩:=QS V es l (off+1) q Z F (M.2 U);exact⟨g1,λp J=>g2 p (by simpa[Xcn,e2,Y] using J)⟩
def Pe {tk:TK}{d:TypeDesc}{u:A}{Q:A->Prop}(Z :∀(J:A) (b:I),Cf tk (.val u) (.val J)=some b->Instr.sameNow d u J=some b/\(b=true->J=u)){y:Xcq}(hy:y.key=u)(hQ:Q y.val) {f:Xcq->Xcq} (U :∀x,(f x).key=u/\Q (f x).val) : ∀(es:O (D×D)) (l:O Xcq) (off:Nat) (q:C D),zp S w es l->BG tk (.val u) es=some q-> (q=none->Ev u Q (l++[y]))/\∀j v,Xcn d u l off=some (some (off+j,v))->Ev u Q (l.modify j f)
 | [],[],off,q,_,F=>⟨λ_=>⟨λ_=>hQ,λe=>absurd hy e⟩,λj v H=>by simp[Xcn] at H⟩
 | [],_::_,_,_,h,_=>by simp[zp] at h
 | _::_,[],_,_,h,_=>by simp[zp] at h
 | p::es,x::l,off,q,h,F=>by
  obtain⟨⟨J,e1,e2,_⟩,hv,ht⟩:=h.tail;simp only[BG,e1] at F;cases K:Cf tk (.val u) (.val J) with
  | none=>simp[K] at F
  | some b=>
   obtain⟨s1,s2⟩:=Z J b K;cases b with
   | true=>
    simp only[K,X21] at F;refine⟨λe=>by rw[<- F] at e;simp at e,λj v H=>?_⟩;simp only[Xcn,e2,s1,X21,X23] at H;obtain rfl:j=0:=by omega
    simp only[List.modify_zero_cons];exact⟨λ_=>(U x).2,λe=>absurd (U x).1 e⟩
   | false=>
    simp only[K] at F;have M:x.key≠u:=λhe=>by rw[<- e2,he] at K;exact J8 _ _ K
    obtain⟨g1,g2⟩:=Pe Z hy hQ U es l (off+1) q ht F;refine⟨λe=>⟨λV=>absurd V M,λ_=>g1 e⟩,λj v H=>?_⟩;simp only[Xcn,e2,s1] at H;cases j with
    | zero=>
     have Y :∀(l:O Xcq) (o:Nat) (p:Nat×A),Xcn d u l o=some (some p)->o<=p.1:=by
      intro l;induction l with
      | nil=>intro o p h;simp[Xcn] at h
      | cons a l ih=>
       intro o p h;simp only[Xcn] at h;split at h
       ·simp only[X21] at h;rw[<- h];exact Xak _
       ·exact Nat.le_of_succ_le (ih _ _ h)
       simp at h
     have:=Y l (off+1) _ H;exact absurd this (by simp)
    | succ j=>simp only[List.modify_succ_cons];exact⟨λV=>absurd V M,λ_=>g2 j v (by rw[H];congr 3;omega)⟩
def J7 {tk:TK}{u:A}{Q:A->Prop}(K:Cf tk (.val u) (.val u)≠some false) :∀(es:O (D×D)) (l:O Xcq),zp S w es l->BG tk (.val u) es=some none->Q (.slice none 0 0)->Ev u Q l
 | [],[],_,_,J=>J
 | [],_::_,h,_,_=>by simp[zp] at h
 | _::_,[],h,_,_=>by simp[zp] at h
 | p::es,y::l,h,F,J=>by
  obtain⟨⟨M,e1,e2,_⟩,Y,U⟩:=h.tail;simp only[BG,e1] at F;cases H:Cf tk (.val u) (.val M) with
  | none=>simp[H] at F
  | some b=>
   cases b with
   | true=>simp[H] at F
   | false=>simp only[H] at F;exact⟨λV=>by rw[<- e2,V] at H;exact absurd H K,λ_=>J7 K es l U F J⟩
def iz (V:xD P T){e:Nat}(F:A7 T e=true)(M:Ub T e=true):(zeroValue e).run P w=.ok (.slice none 0 0) w:=by
 obtain⟨Z,H,J,a6,a7,K,a8,aa,Q⟩:=(V.of (Ar F)).Dg;obtain⟨a1,a2⟩:=(V.of (Ar F)).aggz Z H J K;unfold Ub at M;split at M
 ·rename_i q s h1 Y;have U:=a2 (by rw[h1];rfl);have hz:H.cells=#[H]:=by cases H<;>first|rfl|exact absurd rfl (U _)
  have:=Q 0 (by rw[Y];simp) H (by rw[hz];rfl);simp only[Y,Xbg,JZ] at this;subst this;simp[zeroValue,Xdx,J,K]
 simp at M
def Qk (hT:xD P T){e:Nat}(J:A7 T e=true)(ae:0<(T.get e).size)(K:UB T e=true) :∃z,(zeroValue e).run P w=.ok z w/\zf S w (Oe T e) z:=by
 obtain⟨ie,H,M,af,ag,Q,U,a6,a7⟩:=(hT.of (Ar J)).Dg;refine⟨H,by simp[zeroValue,Xdx,M,Q],?_⟩;unfold Oe;refine zf.norm ?_;obtain⟨a1,a2⟩:=(hT.of (Ar J)).aggz ie H M Q;have F :∀j (hj:j<(T.get e).zero.length),∃u,H.cells[j]?=some u/\(T.get e).zero[j].isAgg=false/\zf S w (T.get e).zero[j] u:=by
  intro j hj;have V:j<H.cells.size:=by omega
  have a8:=a7 j hj H.cells[j] (by simp[V]);obtain⟨a1,a2⟩:=Ls (S:=S) (w:=w) a8;exact⟨_,by simp[V],a1,a2⟩
 unfold UB at K;split
 ·rename_i Y;obtain⟨Z,rfl⟩:=a1 Y;refine .agg _ Z (λi=>Z.getD i Xck) (by simpa[Xe2,a6] using U) (λi hi=>?_) (λi hi=>(F i hi).choose_spec.2.1) λi hi=>?_
  ·have:i<Z.size:=by have:=U;simp only[Xe2] at this;omega
   simp[this]
  obtain⟨u,q1,q2,q3⟩:=F i hi;have q1:Z[i]?=some u:=q1;simp only[Array.getD_eq_getD_getElem?,q1,Xaz];exact q3
 rename_i Y;have K:Xal (T.get e).size 1=true:=by
  split at K
  ·rename_i hq;exact absurd hq Y
  exact K
 have K:=X27 K;have aa:(T.get e).kind.Cy=some false:=by
  have:=Ar J;cases hq:(T.get e).kind.Cy with
  | none=>exact absurd hq this
  | some b=>cases b with
   | true=>exact absurd hq Y
   | false=>rfl
 have ab:=a2 aa;have hz:H.cells=#[H]:=by cases H<;>first|rfl|exact absurd rfl (ab _)
 have hl:(T.get e).zero.length=1:=by omega
 obtain⟨x,hx⟩:=List.length_eq_one_iff.1 hl;obtain⟨u,q1,q2,q3⟩:=F 0 (by omega);rw[hz] at q1;simp at q1;subst q1;simp only[hx,Xbg] at q3;rw[hx];exact q3
def YX {obl:O (C OB)}(hT:xD P T){t k e:Nat}{U kv:A}{ok:I}{K:AV->Prop}{es:O (D×D)}{bb:Nat}{arr:Array Xcq}{H:Nat}(F:(T.get t).kind=.map k e) (hk:kI S w φ (λr=>obl.getD r none) (.d (.val kv)) U) (c0:JX (T.get k).kind kv=true) (c1:JR (T.get k).kind=true) (c2:A7 T k=true) (c3:A7 T e=true) (c4:Xcu 0 (T.get e).size=true) (c5:UB T e=true) (h2:w.heap[bb]?=some (.map arr H)) (h4:zp S w es arr.toList) (h :∃q,BG (T.get k).kind (.val kv) es=some q/\∃v,q.getD (Oe T e)=v/\∃b,q.isSome=b/\K (match (generalizing:=false) ok with
     | true=>.Ca [.d v,.b b]
     | false=>.d v)) :∃J u,K J/\(Instr.lookup t (.map (some bb)) U ok).run P w=.ok u w/\kI S w φ (λr=>obl.getD r none) J u/\oA (λr=>obl.getD r none) J:=by
 obtain⟨q,hq,v,hv,b,hb,hK⟩:=h;obtain⟨d,hd,a7,V⟩:=LF hT c1 c2;have a8:=hk.val;subst a8;have hm:P.underlying t=some (.map k e):=by have:=(hT.of (t:=t) (by rw[F];simp[TK.Cy])).kind;rwa [F] at this
 have Y:0<(T.get e).size:=X26 c4;obtain⟨z,hz,Z⟩:=Qk (P:=P) (w:=w) (S:=S) hT c3 Y c5;have a6 :∀em,(Instr.checkKey em 10000 k U).run P w=.ok () w:=by intro em;exact run_checkKey hd (a7 _ c0) em 9999
 rcases O6 (S:=S) (w:=w) (tk:=(T.get k).kind) (d:=d) (u:=U) (λu' b=>V U u' b) es arr.toList 0 q h4 hq with ⟨g1,g2,_⟩|⟨j,y,v',g1,g2,g3,g4,g5,g6,_⟩
 ·subst g1;simp only[Option.getD_none,Option.isSome_none] at hv hb;subst hv hb;refine⟨_,(if ok then .tuple #[z,.bool false] else z),hK,?_,?_,?_⟩
  ·unfold Instr.lookup;simp[Xae hm,Xdz h2,a6,run_findKey hd g2,hz,Result.andThen]
  ·cases ok
   ·exact .d _ _ Z
   exact .Ca _ _ (λi=>if i=0 then z else .bool false) rfl (λi M=>by
    match i,M with
    | 0,_=>rfl
    | 1,_=>rfl) λi M=>by
    match i,M with
    | 0,_=>exact .d _ _ Z
    | 1,_=>exact .d _ _ (.val _ rfl)
  cases ok
  ·exact A0 _ _
  intro r' Q;simp[AV.refs,AV.refs.refsL] at Q
 subst g1;simp only[Xaz,Option.isSome_some] at hv hb;subst hv hb;refine⟨_,(if ok then .tuple #[y.val,.bool true] else y.val),hK,?_,?_,?_⟩
 ·unfold Instr.lookup;simp[Xae hm,Xdz h2,a6,run_findKey hd g6,Result.andThen]
 ·cases ok
  ·exact .d _ _ g5
  exact .Ca _ _ (λi=>if i=0 then y.val else .bool true) rfl (λi M=>by
   match i,M with
   | 0,_=>rfl
   | 1,_=>rfl) λi M=>by
   match i,M with
   | 0,_=>exact .d _ _ g5
   | 1,_=>exact .d _ _ (.val _ rfl)
 cases ok
 ·exact A0 _ _
 intro r' Q;simp[AV.refs,AV.refs.refsL] at Q
def Ya {obl:O (C OB)}(hT:xD P T)(m:Mem E w S φ (λr=>obl.getD r none)){t:Nat}{x key:AV}{vx V:A}{ok:I}{K:AV->Prop} (hx:kI S w φ (λr=>obl.getD r none) x vx) (hk:kI S w φ (λr=>obl.getD r none) key V) (h:fE T t x key ok obl K) : ∃H u,K H/\(Instr.lookup t vx V ok).run P w=.ok u w/\kI S w φ (λr=>obl.getD r none) H u/\oA (λr=>obl.getD r none) H:=by
 unfold fE at h;split at h
 ·rename_i k e r kv J;simp only[AI,X24,Ao] at h;obtain⟨⟨⟨⟨⟨⟨c0,c1⟩,c2⟩,c3⟩,c4⟩,c5⟩,o,ho,h⟩:=h;have Y :∀(U:O (D×D)),(∃b c arr F,φ r=some (b,c)/\w.heap[b]?=some (.map arr F)/\((∀o,¬ S b o)/\Cu arr F)/\zp S w U arr.toList)->
    (∃q,BG (T.get k).kind (.val kv) U=some q/\∃v,q.getD (Oe T e)=v/\∃b,q.isSome=b/\K (match (generalizing:=false) ok with
     | true=>.Ca [.d v,.b b]
     | false=>.d v))->∃H u,K H/\(Instr.lookup t vx V ok).run P w=.ok u w/\kI S w φ (λr=>obl.getD r none) H u/\oA (λr=>obl.getD r none) H:=by
   intro U ⟨bb,c,arr,F,h1,h2,h3,Z⟩ h;cases hx with|mp _ b' c' M a8 aa=>
   rw[h1] at M;simp only[X21,X23] at M;obtain⟨rfl,rfl⟩:=M;exact YX hT J hk c0 c1 c2 c3 c4 c5 h2 Z h
  cases o with
  | box=>simp at h
  | row=>simp at h
  | gone=>simp at h
  | map k' e' U=>exact Y U (TV (m.obj r _ ho)) h
  | zj k' e' U ag r' n'=>
   obtain⟨bb,c,arr,F,h1,h2,h3,Z,h5⟩:=PV (m.obj r _ ho);rcases h with h|⟨rfl,rfl,⟨q,hq⟩,ab,hK⟩
   ·exact Y U ⟨bb,c,arr,F,h1,h2,h3,Z⟩ h
   have a6:oA (λr=>obl.getD r none) (.own r' n'):=λq hq=>m.GJ r _ ho q (by simpa[AV.refs,OB.refs] using hq);obtain⟨d,hd,ae,Q⟩:=LF hT c1 c2;cases hx with|mp _ b' c' M a8 aa=>
   rw[h1] at M;simp only[X21,X23] at M;obtain⟨rfl,rfl⟩:=M;have af:=hk.val;subst af;have hm:P.underlying t=some (.map k e):=by have:=(hT.of (t:=t) (by rw[J];simp[TK.Cy])).kind;rwa [J] at this
   have a7 :∀em,(Instr.checkKey em 10000 k V).run P w=.ok () w:=by intro em;exact run_checkKey hd (ae _ c0) em 9999
   rcases O6 (S:=S) (w:=w) (tk:=(T.get k).kind) (d:=d) (u:=V) (λu' b=>Q V u' b) U arr.toList 0 q Z hq with ⟨g1,g2,_⟩|⟨j,y,v',g1,g2,g3,g4,g5,g6,_⟩
   ·subst g1;refine⟨_,.slice none 0 0,hK,?_,(QS (λu' b=>Q V u' b) U arr.toList 0 _ Z hq h5).1 rfl,a6⟩;unfold Instr.lookup;simp[Xae hm,Xdz h2,a7,run_findKey hd g2,iz (P:=P) (w:=w) hT c3 ab,Result.andThen]
   refine⟨_,y.val,hK,?_,(QS (λu' b=>Q V u' b) U arr.toList 0 _ Z hq h5).2 _ g6,a6⟩;unfold Instr.lookup;simp[Xae hm,Xdz h2,a7,run_findKey hd g6,Result.andThen]
 exact h.elim
def zp.mono {S':Sc}{w':B}(F:PQ S w S' w'){es:O (D×D)}{l:O Xcq}(h:zp S w es l):zp S' w' es l:=
 ⟨h.1,λi H=>by obtain⟨x,a,b,c⟩:=h.2 i H;exact⟨x,a,b,c.mono F⟩⟩
def YP {obl:O (C OB)}(V:xD P T)(m:Mem E w S φ (λr=>obl.getD r none)){t:Nat}{a:AV}{v:A}{K:AV->Prop}(Y:kI S w φ (λr=>obl.getD r none) a v) (hc:oA (λr=>obl.getD r none) a) (h:iU T E.wl.G t a obl K) : ∃F u,K F/\(Xdt t v).run P w=.ok u w/\kI S w φ (λr=>obl.getD r none) F u/\oA (λr=>obl.getD r none) F:=by
 unfold iU at h;split at h
 ·rename_i g;split at h
  ·rename_i k e es H hG;cases Y;obtain⟨M,b,arr,Q,a6,g2,U,g4,g6,g5⟩:=E.wl.ext _ _ _ (λb Z=>m.fr b (E.hg.lt b Z) (E.hg.pb b Z)) E.hg.gf g es hG;have J:(T.get t).kind.Cy=some false:=by rw[H];rfl
   have hS:S g 0:=m.sS g 0 (E.hg.st g 0 M (by
    intro hn;rw[<- CL (m.fr g (E.hg.lt g M) (E.hg.pb g M)) 0,U] at hn
    simp at hn))
   refine⟨_,_,h,?_,.gv g _ hS U,λr hr=>by simp[AV.refs] at hr⟩;obtain⟨d,hu,hd⟩:=(V.of (t:=t) (by rw[J];simp)).kind.plain J;simp only[Xdt,Xd2,Xb0,Xdd,Xaw,EF hu hd U]
  exact h.elim
 exact Ql V m Y hc h
def ZP {obl:O (C OB)}(M:xD P T)(m:Mem E w S φ (λr=>obl.getD r none)){t:Nat}{x key:AV}{Q U:A}{ok:I}{K:AV->Prop} (V:kI S w φ (λr=>obl.getD r none) x Q) (Y:kI S w φ (λr=>obl.getD r none) key U) (h:gR T E.wl.G t x key ok obl K) : ∃F u,K F/\(Instr.lookup t Q U ok).run P w=.ok u w/\kI S w φ (λr=>obl.getD r none) F u/\oA (λr=>obl.getD r none) F:=by
 unfold gR at h;split at h
 ·rename_i g;unfold pi at h;split at h
  ·rename_i k e es kv H hG;rw[AI] at h;simp only[X24] at h;obtain⟨⟨⟨⟨⟨⟨c0,c1⟩,c2⟩,c3⟩,c4⟩,c5⟩,h⟩:=h;obtain⟨g1,b,arr,J,a6,g2,g3,g4,g6,g5⟩:=E.wl.ext _ _ _ (λb Z=>m.fr b (E.hg.lt b Z) (E.hg.pb b Z)) E.hg.gf g es hG;cases V with|gv _ _ hS hv=>
   rw[g3] at hv;obtain rfl:=X22 hv;obtain⟨q,hq,hr⟩:=h;exact YX M H Y c0 c1 c2 c3 c4 c5 g4 (g5.mono λ_ _ hf=>hf.elim) ⟨q,g6 _ _ _ hq,hr⟩
  exact h.elim
 exact Ya M m V Y h
def zp.push {es:O (D×D)}{l:O Xcq}(h:zp S w es l){u:A}{v:D}{x:Xcq}(J:u.oneCell'=true)(K:x.key=u)(M:zf S w v x.val):zp S w (es++[(.val u,v)]) (l++[x]):=by
 obtain⟨H,Q⟩:=h;refine⟨by simp[H],λi U=>?_⟩;by_cases F:i<es.length
 ·obtain⟨y,a,b,c⟩:=Q i F;exact⟨y,by rw[Xaf (by omega)];exact a,by rw[Xaq F];exact b,by rw[Xaq F];exact c⟩
 have e:i=es.length:=by simp at U;omega
 subst e;exact⟨x,by rw[Xas (by omega)];simp[H],by simp[K,J],by simpa using M⟩
def zp.set {es:O (D×D)}{l:O Xcq}(h:zp S w es l){j:Nat}{u:A}{v:D}{f:Xcq->Xcq}(V:j<es.length)(H:u.oneCell'=true)(J :∀y,(f y).key=u)(K :∀y,zf S w v (f y).val) : zp S w (es.set j (.val u,v)) (l.modify j f):=by
 obtain⟨M,Q⟩:=h;refine⟨by simp[M],λi U=>?_⟩;have F:i<es.length:=by simpa using U
 obtain⟨y,a,b,c⟩:=Q i F;by_cases e:j=i
 ·subst e;refine⟨f y,by rw[List.getElem?_modify];simp[a],?_,?_⟩
  ·simp only[List.getElem_set_self];exact⟨u,rfl,J y,H⟩
  simp only[List.getElem_set_self];exact K y
 refine⟨y,by rw[List.getElem?_modify];simp[a,e],?_,?_⟩
 ·rw[List.getElem_set_ne e];exact b
 rw[List.getElem_set_ne e];exact c
def JJ {obl:O (C OB)}(hT:xD P T){t k e0 r:Nat}{kv U vv vx:A}{dv:D}{wr:W}{S':Sc}(Y:(T.get t).kind=.map k e0)(c0:JX (T.get k).kind kv=true)(c1:JR (T.get k).kind=true)(c2:A7 T k=true) (hx:kI S w φ (λr=>obl.getD r none) (.mp r) vx) (hk:kI S w φ (λr=>obl.getD r none) (.d (.val kv)) U) (m':Mem E w S' φ (Af (λr=>obl.getD r none) wr)) (k':Kept w S φ (λr=>obl.getD r none) w S' φ (Af (λr=>obl.getD r none) wr)) (ah:zf S' w dv vv) (ap:Xj obl wr) {o J:OB} (ho:obl.getD r none=some o) (ai:Af (λr=>obl.getD r none) wr r=some o) (hh:Ga (some o)=none) {k1 e1:Nat} {es zs:O (D×D)} (Z:FA (T.get k).kind (.val kv) dv es=some zs) (aj :∃b c arr H,φ r=some (b,c)/\w.heap[b]?=some (.map arr H)/\((∀o,¬ S' b o)/\Cu arr H)/\zp S' w es arr.toList) (a6:J=.map k1 e1 zs \/∃M n,J=.zj k1 e1 zs kv M n/\Af (λr=>obl.getD r none) wr M≠none/\kI S' w φ (Af (λr=>obl.getD r none) wr) (.own M n) vv) : ∃w',(∀M o',(M,o')∈wr++[(r,J)]->M<obl.length)/\(Instr.mapUpdate t vx U vv).run P w=.ok () w'/\zP E w S φ (λr=>obl.getD r none) .dead (wr++[(r,J)]) Xck w':=by
 obtain⟨d,hd,ae,a7⟩:=LF hT c1 c2;have aq:=hk.val;subst aq;have hm:P.underlying t=some (.map k e0):=by have:=(hT.of (t:=t) (by rw[Y];simp[TK.Cy])).kind;rwa [Y] at this
 obtain⟨b,c,arr,H,h1,h2,⟨h3,a8⟩,h4⟩:=aj;have ar:vx=.map (some b):=by
  cases hx with|mp _ b' c' ag ay az=>
  rw[h1] at ag;simp only[X21,X23] at ag;rw[ag.1]
 subst ar;have hu:U.oneCell'=true:=by have:=ae _ c0;cases U<;>first|rfl|(cases d<;>simp[IsKey] at this)
 have au:r<obl.length:=Cb obl r _ ho;obtain⟨q,hq⟩:=TZ Z;have af :∀M o',(M,o')∈wr++[(r,J)]->M<obl.length:=by
  intro M o' V;rcases X20.1 V with V|V
  ·obtain⟨e',ba,bb,f',q1,_⟩:=ap M o' V;exact Cb obl M _ q1
  simp only[X11,X23] at V;rw[V.1];exact au
 have ak:Ga (some J)=none/\∀cs,J≠.box cs:=by
  rcases a6 with rfl|⟨M,n,rfl,_⟩
  ·exact⟨rfl,λcs h=>by simp at h⟩
  exact⟨rfl,λcs h=>by simp at h⟩
 have fin :∀(K:Array Xcq) (F:Nat),Cu K F->(∀{S2:Sc} {w2:B},PQ S' w S2 w2->zp S2 w2 zs K.toList)->(∀{Q:A->Prop},Q vv->Ev U Q K.toList)->
   zP E w S φ (λr=>obl.getD r none) .dead (wr++[(r,J)]) Xck { w with heap:=w.heap.setIfInBounds b (.map K F) }:=by
  intro K F al he ax;obtain⟨s1,s2⟩:=heap_set (w:=w) (o':=.map K F) h2;obtain⟨m2,k2⟩:=m'.set r o J { w with heap:=w.heap.setIfInBounds b (.map K F) } (φ r) ai (λi hi hn=>s2 i λe=>hn c (by rw[e];exact h1)) (by simp) ⟨rfl,rfl,rfl,Xak _⟩
   (λb' c' o hb hS=>by rw[h1] at hb;simp only[X21,X23] at hb;rw[<- hb.1] at hS;exact absurd hS (h3 o)) (.inl rfl)
   (.inl ⟨gS _ _ _,by rw[gS,ai,hh];exact ak.1,λ⟨cs,hc⟩=>by rw[gS] at hc;exact absurd (X22 hc) (ak.2 cs)⟩) (λM aa=>by
    rcases a6 with rfl|⟨r2,n,rfl,hn,_⟩
    ·simp[OB.refs] at aa
    ·simp only[OB.refs,X11] at aa;rw[aa];exact hn) (λan=>by
    obtain⟨g1,g2⟩:=he an.k;rcases a6 with rfl|⟨r2,n,rfl,hn,ao⟩
    ·exact⟨b,c,K,F,by rw[gS];exact h1,s1,⟨by simpa using g1,al⟩,h3,λi hi=>by simpa using g2 i hi⟩
    exact⟨b,c,K,F,by rw[gS];exact h1,s1,⟨by simpa using g1,al⟩,h3,λi hi=>by simpa using g2 i hi,ax (an.Ke (λq hq=>by
     simp only[AV.refs,X11] at hq
     rw[hq];exact hn) ao)⟩)
  exact⟨S',_,by rw[AQ];exact m2,by rw[AQ];exact k'.trans k2,.dead _,λM aa=>by simp[AV.refs] at aa⟩
 rcases O6 (S:=S') (w:=w) (tk:=(T.get k).kind) (d:=d) (u:=U) (λu' b=>a7 U u' b) es arr.toList 0 q h4 hq with ⟨g1,g2,g3⟩|⟨j,y,v',_,g2,g3,g4,_,g6,g7⟩
 ·rw[g3 dv] at Z;obtain rfl:=X22 Z;refine⟨_,af,?_,fin (arr.push { key:=U,val:=vv,born:=H }) (H+1) (a8.push _ _) (λab=>?_) λhQ=>?_⟩
  ·unfold Instr.mapUpdate;simp[Xae hm,Xdz h2,run_checkKey hd (ae _ c0),run_findKey hd g2,run_setObj_map _ h2,Result.andThen]
  ·rw[Array.toList_push];exact (h4.mono ab).push hu rfl (ah.mono ab)
  rw[Array.toList_push];exact (Pe (λu' b=>a7 U u' b) rfl hQ (f:=λe=>{ e with key:=U,val:=vv }) (λ_=>⟨rfl,hQ⟩) es arr.toList 0 _ h4 hq).1 g1
 rw[g7 dv] at Z;obtain rfl:=X22 Z;have hj:arr[j]?=some y:=by simpa using g2
 refine⟨_,af,?_,fin (arr.modify j λe=>{ e with key:=U,val:=vv }) H (a8.modify _ _ λ_=>rfl) (λab=>?_) λhQ=>?_⟩
 ·unfold Instr.mapUpdate;simp[Xae hm,Xdz h2,run_checkKey hd (ae _ c0),run_findKey hd g6,hj,g3,run_keyThatStays (ae _ c0),run_setObj_map _ h2,Result.andThen]
 ·rw[Array.toList_modify];exact (h4.mono ab).set g4 hu (λ_=>rfl) λ_=>ah.mono ab
 rw[Array.toList_modify];exact (Pe (λu' b=>a7 U u' b) (y:={ key:=U,val:=vv,born:=H }) rfl hQ (f:=λe=>{ e with key:=U,val:=vv }) (λ_=>⟨rfl,hQ⟩) es arr.toList 0 _ h4 hq).2 j _ g6
def ND {obl:O (C OB)}(hT:xD P T)(m:Mem E w S φ (λr=>obl.getD r none)){t:Nat}{x key v:AV}{vx vk vv:A}{K:AV->W->Prop} (hx:kI S w φ (λr=>obl.getD r none) x vx) (hk:kI S w φ (λr=>obl.getD r none) key vk) (hv:kI S w φ (λr=>obl.getD r none) v vv) (h:MX T t x key v obl K) : ∃U wr w',K U wr/\(∀r o,(r,o)∈wr->r<obl.length)/\(Instr.mapUpdate t vx vk vv).run P w=.ok () w'/\zP E w S φ (λr=>obl.getD r none) U wr Xck w':=by
 unfold MX at h;split at h
 ·rename_i k e0 r kv H;simp only[AI,X24] at h;obtain⟨⟨⟨c0,c1⟩,c2⟩,h⟩:=h;obtain⟨dv,wr,S',F,m',k',V,a6,Y⟩:=Di m (z7.refl _) hv h;rw[Ao] at F;obtain⟨Z,o,ho,F⟩:=F;have J:Af (λr=>obl.getD r none) wr r=some o:=by
   rw[EM wr _ r λq hq e=>by
    simp only[Xa6] at Z;have:=Z q hq;rw[e] at this
    simp[Xe6] at this]
   exact ho
  cases o with
  | box=>simp at F
  | row=>simp at F
  | gone=>simp at F
  | map k1 e1 es=>obtain⟨zs,M,F⟩:=F;obtain⟨w',g1,g2,g3⟩:=JJ (P:=P) hT H c0 c1 c2 hx hk m' k' V Y ho J rfl M (TV (m'.obj r _ J)) (.inl rfl);exact⟨_,_,w',F,g1,g2,g3⟩
  | zj k1 e1 es a7 r' n=>obtain⟨zs,M,F⟩:=F;obtain⟨b,c,arr,Q,q1,q2,q3,q4,_⟩:=PV (m'.obj r _ J);obtain⟨w',g1,g2,g3⟩:=JJ (P:=P) hT H c0 c1 c2 hx hk m' k' V Y ho J rfl M ⟨b,c,arr,Q,q1,q2,q3,q4⟩ (.inl rfl);exact⟨_,_,w',F,g1,g2,g3⟩
 exact h.elim
def VX {obl:O (C OB)}(hT:xD P T)(m:Mem E w S φ (λr=>obl.getD r none)){t r0 n0:Nat}{x key:AV}{vx vk vv:A}{K:AV->W->Prop} (hx:kI S w φ (λr=>obl.getD r none) x vx) (hk:kI S w φ (λr=>obl.getD r none) key vk) (hv:kI S w φ (λr=>obl.getD r none) (.own r0 n0) vv) (U:oA (λr=>obl.getD r none) (.own r0 n0)) (h:PM T t x key r0 n0 obl K) : ∃V wr w',K V wr/\(∀r o,(r,o)∈wr->r<obl.length)/\(Instr.mapUpdate t vx vk vv).run P w=.ok () w'/\zP E w S φ (λr=>obl.getD r none) V wr Xck w':=by
 unfold PM at h;split at h
 ·rename_i k e0 r kv H;simp only[AI,X24] at h;obtain⟨⟨⟨c0,c1⟩,c2⟩,h⟩:=h;obtain⟨dv,wr,S',F,m',k',Y,a8,Z⟩:=Di m (z7.refl _) hv h;rw[Ao] at F;obtain⟨a6,o,ho,F⟩:=F;have J:Af (λr=>obl.getD r none) wr r=some o:=by
   rw[EM wr _ r λq hq e=>by
    simp only[Xa6] at a6;have:=a6 q hq;rw[e] at this
    simp[Xe6] at this]
   exact ho
  have hn:Af (λr=>obl.getD r none) wr r0≠none:=k'.closed U r0 (by simp[AV.refs]);have a7:=k'.Ke U hv;cases o with
  | box=>simp at F
  | row=>simp at F
  | gone=>simp at F
  | map k1 e1 es=>obtain⟨zs,M,F⟩:=F;obtain⟨w',g1,g2,g3⟩:=JJ (P:=P) hT H c0 c1 c2 hx hk m' k' Y Z ho J rfl M (TV (m'.obj r _ J)) (.inr ⟨r0,n0,rfl,hn,a7⟩);exact⟨_,_,w',F,g1,g2,g3⟩
  | zj k1 e1 es aa r' n=>obtain⟨zs,M,F⟩:=F;obtain⟨b,c,arr,Q,q1,q2,q3,q4,_⟩:=PV (m'.obj r _ J);obtain⟨w',g1,g2,g3⟩:=JJ (P:=P) hT H c0 c1 c2 hx hk m' k' Y Z ho J rfl M ⟨b,c,arr,Q,q1,q2,q3,q4⟩ (.inr ⟨r0,n0,rfl,hn,a7⟩);exact⟨_,_,w',F,g1,g2,g3⟩
 exact h.elim
def NL {obl:O (C OB)}(H:xD P T)(m:Mem E w S φ (λr=>obl.getD r none)){t:Nat}{x key v:AV}{V Y Z:A}{K:AV->W->Prop} (J:kI S w φ (λr=>obl.getD r none) x V) (M:kI S w φ (λr=>obl.getD r none) key Y) (Q:kI S w φ (λr=>obl.getD r none) v Z) (U:oA (λr=>obl.getD r none) v) (h:OU T t x key v obl K) : ∃F wr w',K F wr/\(∀r o,(r,o)∈wr->r<obl.length)/\(Instr.mapUpdate t V Y Z).run P w=.ok () w'/\zP E w S φ (λr=>obl.getD r none) F wr Xck w':=by
 unfold OU at h;split at h
 ·rcases h with h|h
  ·exact ND H m J M Q h
  exact VX H m J M Q U h
 exact ND H m J M Q h
def U4 {obl:O (C OB)}(m:Mem E w S φ (λr=>obl.getD r none)){t self k e:Nat}(H:obl.getD self none=none) : ∃w',(Instr.makeMap t none).run P w=.ok (.map (some w.heap.size)) w'/\zP E w S φ (λr=>obl.getD r none) (.mp self) [(self,.map k e [])] (.map (some w.heap.size)) w':=by refine⟨w.alloc (.map #[] 0),rfl,?_⟩;obtain⟨K,M⟩:=m.Ra self (0,0) (.map k e []) (.map #[] 0) H (λr F=>by simp[OB.refs] at F) (λQ=>⟨w.heap.size,(0,0),#[],0,gS _ _ _,(heap_alloc w _).1,⟨rfl,.empty _⟩,λo U=>absurd (m.bS _ _ U) (Xep _),λi V=>by simp at V⟩);refine⟨S,_,K,M,.mp self w.heap.size (0,0) (gS _ _ _) (λe sz Z Y J=>by simp[Af] at J) (λcs J=>by simp[Af] at J),λr F=>?_⟩;simp only[AV.refs,X11] at F;subst F;simp[Af]
def Mem.Mk (m:Mem E w S φ ob){r e sz b:Nat}{c:Rp}{es es':O D}{e0:Nat}{K cur':Array A}{w':B}(M:ob r=some (.row e sz es .no))(F:φ r=some (b,c))(hc:w.heap[b]?=some (.cells K e0 (0,0))) (hl:es'.length=es.length) (h1 :∀i (H:i<es'.length),es'[i].cells.length=sz) (h2 :∀i (H:i<es'.length) j (Q:j<es'[i].cells.length),es'[i].cells[j].isAgg=false) (U:w'.heap[b]?=some (.cells cur' e0 (0,0))) (zx:cur'.size=K.size) (hw :∀k,k<w.heap.size->k≠b->w'.heap[k]?=w.heap[k]?) (hs:w.heap.size<=w'.heap.size) (V:w'.os=w.os/\w'.output=w.output/\w'.tape=w.tape/\w.drawn<=w'.drawn) (f:Nat->Nat->A) (hf :∀i j,i<es'.length->j<sz->cur'[c.2+(i*sz+j)]?=some (f i j)) (hr :∀i (H:i<es'.length) j (Q:j<es'[i].cells.length),zf S w es'[i].cells[j] (f i j)) : Mem E w' S φ (zg ob r (some (.row e sz es' .no)))/\Kept w S φ ob w' S φ (zg ob r (some (.row e sz es' .no))):=by
 obtain⟨g0,g1,g2,g3⟩:=m.obj r _ M;rcases g3 with ⟨J,_⟩|⟨b',a8,vs,g,J,Y,f3,f4,f5,f6,f7,f8⟩
 ·rw[F] at J;simp at J
 rw[F] at J;simp only[X21,X23] at J;obtain⟨rfl,rfl⟩:=J;rw[hc] at Y;simp only[X21,Obj.cells.injEq] at Y;obtain⟨rfl,rfl,_⟩:=Y;have:=m.set r _ (.row e0 sz es' .no) w' (φ r) M (λk Z a6=>hw k Z λhe=>a6 c (by rw[he];exact F)) hs V
  (λb2 c2 o hb hS=>by rw[F] at hb;simp only[X21,X23] at hb;rw[<- hb.1] at hS;exact absurd hS (f8.1 o (by simp))) (.inl rfl)
  (.inl ⟨gS _ _ _,by simp[M,Ga,hl],λh=>by simp at h⟩) (λr' a7=>by simp[OB.refs] at a7) (λZ=>⟨g0,h1,h2,.inr ⟨b,c,cur',f,by rw[gS];exact F,U,by omega,f4,by rw[zx];exact f5,hf,λi H j Q=>(hr i H j Q).mono Z.k,λo _=>f8.1 o (by simp),λ_ _ _ _ h=>nomatch h⟩⟩)
 have hu:zg φ r (φ r)=φ:=by funext i;by_cases H:i=r<;>simp[zg,H]
 rwa [hu] at this
def Hh (z:Array A)(n i j:Nat)(H:i<n)(F:j<z.size):(Xac z n)[i*z.size+j]?=z[j]?:=by
 have J:(i+1)*z.size<=n*z.size:=X28 _ H;rw[X29] at J;have K:(i*z.size+j)%z.size=j:=by rw[Xc6,Nat.mul_add_mod,Xbf F]
 have M:i*z.size+j<n*z.size:=by omega
 simp[Xac,M,K,F]
def Xz {obl:O (C OB)}(hT:xD P T)(m:Mem E w S φ (λr=>obl.getD r none)){t ty r a n mm:Nat}{vx:A}{K:AV->W->Prop}(hx:kI S w φ (λr=>obl.getD r none) (.Fc r a n mm) vx) (h:Xf T t r a n mm obl K) :∃V wr w',K V wr/\(∀r o,(r,o)∈wr->r<obl.length)/\(Builtin.clear_ #[t] ty #[vx]).run P w=.ok (.tuple #[]) w'/\zP E w S φ (λr=>obl.getD r none) V wr (.tuple #[]) w':=by
 unfold Xf at h;split at h
 ·rename_i e hk;rw[Ao] at h;obtain⟨o,ho,h⟩:=h;cases o with
  | box=>simp at h
  | map=>simp at h
  | zj=>simp at h
  | gone=>simp at h
  | row e' sz es bi=>
   simp only[AI,X24] at h;obtain⟨⟨⟨⟨c1,c2⟩,c3⟩,c4⟩,hm,z,hz,zs,ab,hK⟩:=h;obtain rfl:=FZ.Fx c3;have zx:sz=(T.get e).size:=X27 c2;obtain⟨g0,g1,g2,g3⟩:=m.obj r _ ho;have af:0<(T.get e).size:=zx▸g0;obtain⟨J,a6,ag⟩:=Qk (P:=P) (w:=w) (S:=S) hT c1 af c4;rw[hz] at ag;cases hx with|Fc _ _ _ _ _ k c a0 hv ar h1=>
   obtain⟨q1,q2,_⟩:=(h1 e' sz es .no ho).2 hm;have V :∀{w':B} {S':Sc} {φ':Nat->C (Nat×Rp)} {au:Nat->C OB},kI S' w' φ' au (.Ca []) (.tuple #[]):=.Ca [] #[] (λ_=>Xck) rfl (λi U=>by simp at U) λi U=>by simp at U
   have ah :∀r' o',(r',o') ∈ [(r,OB.row e' sz zs .no)]->r'<obl.length:=λr' o' ai=>by simp only[X11,X23] at ai;rw[ai.1];exact Cb obl _ _ ho
   have hu:=Av hT hk;by_cases a7:n=0
   ·
    have ax:zs=es:=by rw[<- ab,a7];simp
    subst ax;refine⟨_,_,w,hK,ah,?_,S,φ,?_,?_,V,λr' ae=>by simp[AV.refs,AV.refs.refsL] at ae⟩
    ·rw[hv,ar,a7];cases a0<;>simp[Builtin.clear_,Xae hu]
    all_goals
     have:Af (λr=>obl.getD r none) [(r,OB.row e' sz zs .no)]=λr=>obl.getD r none:=by
      funext q;simp only[Af];by_cases hq:q=r
      ·subst hq;rw[gS];exact ho.symm
      rw[AO _ _ _ _ hq]
     rw[this]
    ·exact m
    exact .refl _ _ _ _
   rcases q2 with q2|⟨b,bj,c',q2,q3,_⟩
   ·exact absurd q2 a7
   rcases g3 with ⟨f1,_⟩|⟨b',F,M,f,f1,f2,f3,f4,f5,f6,f7,f8⟩
   ·rw[f1] at q2;simp at q2
   rw[f1] at q2;simp only[X21,X23] at q2;obtain⟨rfl,rfl⟩:=q2;obtain⟨zc,zr⟩:=ag.cells;obtain⟨ie,zz,ay,bk,bl,az,aj,bh,_⟩:=(hT.of (Ar c1)).Dg;have ak:J=zz:=by
    have:(zeroValue e).run P w=.ok zz w:=by simp[zeroValue,Xdx,ay,az]
    rw[this] at a6;simp only[Result.ok.injEq] at a6;exact a6.1.symm
   subst ak;have Y:J.cells.size=sz:=by rw[aj,zx]
   have ba:z.cells.length=sz:=by omega
   have al:(a+n)*sz<=F.1*sz:=X28 _ (by omega);rw[X29] at al;have a8:(Xac J.cells n).toList.length=n*sz:=by simp[size_zeroCells,Y]
   have an :∀v∈(Xac J.cells n).toList,v.oneCell'=true:=by
    intro v bb;obtain⟨q,hq,rfl⟩:=Xai bb;rw[a8] at hq;have bc:0<sz:=g0;have e1:q/sz<n:=Nat.div_lt_of_lt_mul (by rw[Xc6];exact hq);have e2:q%sz<sz:=Xeu _ bc;have e3:q/sz*sz+q%sz=q:=Nat.div_add_mod' q sz;have:=Hh J.cells n (q/sz) (q%sz) e1 (by omega);rw[Y,e3] at this;obtain⟨u,p1,p2,p3⟩:=zr (q%sz) (by omega);rw[p1] at this;have bd:q<(Xac J.cells n).size:=by simpa using (by omega:q<(Xac J.cells n).toList.length)
    rw[Array.getElem?_eq_getElem bd] at this;simp only[Array.getElem_toList];rw[X22 this];exact p3.one p2
   have ao:=run_storeCells_at P b' (F.2+a*sz) e' (Xac J.cells n).toList 0 M w f2 (by rw[a8];omega) an;have aa:F.2+a*sz+(Xac J.cells n).toList.length<=M.toList.length:=by rw[a8];simp;omega
   have be:(M.toList.take (F.2+a*sz+0)++(Xac J.cells n).toList++M.toList.drop (F.2+a*sz+0+(Xac J.cells n).toList.length))=BC M.toList (F.2+a*sz) (Xac J.cells n).toList:=rfl;rw[be] at ao;obtain⟨s1,s2,s3⟩:=IF w b' (BC M.toList (F.2+a*sz) (Xac J.cells n).toList).toArray;have hh:=setRow_heap w b' M (BC M.toList (F.2+a*sz) (Xac J.cells n).toList).toArray e' (0,0) f2;have ap:zs.length=es.length:=by rw[<- ab];simp;omega
   have Z :∀i (U:i<zs.length),zs[i]=if h:a<=i/\i<a+n then z else es[i]'(by omega):=by
    intro i U;subst ab;by_cases h1:i<a
    ·rw[Xf1 (by omega),Xaq (by simp;omega),Xaq (by simp;omega)];simp
    by_cases h2:i<a+n
    ·rw[Xf5 ⟨by omega,h2⟩,Xaq (by simp;omega),Xbl (by simp;omega)];simp
    rw[Xf1 (by omega),Xbl (by simp;omega)];simp only[Xbx];congr 1;simp;omega
   have aq :∀i j,i<zs.length->j<sz->(BC M.toList (F.2+a*sz) (Xac J.cells n).toList).toArray[F.2+(i*sz+j)]?=some (if a<=i/\i<a+n then J.cells.getD j Xck else f i j):=by
    intro i j U Q;have:=ED M.toList (F.2+a*sz) (Xac J.cells n).toList aa (F.2+(i*sz+j));rw[a8] at this;simp only[Xe5,this];by_cases H:a<=i/\i<a+n
    ·have k1:a*sz<=i*sz:=X28 _ H.1;have k2:(i+1)*sz<=(a+n)*sz:=X28 _ H.2;rw[X29,X29] at k2;rw[Xa2 ⟨by omega,by omega⟩,Xa2 H];have e3:F.2+(i*sz+j)-(F.2+a*sz)=(i-a)*sz+j:=by rw[Nat.sub_mul];omega
     rw[e3];have:=Hh J.cells n (i-a) j (by omega) (by omega);rw[Y] at this;have bf:j<J.cells.size:=by omega
     simpa[bf] using this
    rw[Xa1 H,Xa1]
    ·simpa using f6 i j (by omega) Q
    rintro⟨k1,k2⟩;rcases Xei i a with h|h
    ·have:(i+1)*sz<=a*sz:=X28 _ h;rw[X29] at this;omega
    have:(a+n)*sz<=i*sz:=X28 _ (by omega);rw[X29] at this;omega
   obtain⟨m1,k1⟩:=m.Mk (es':=zs) ho f1 f2 ap (λi U=>by
     rw[Z i U];split
     ·exact ba
     ·exact g1 _ _) (λi U j Q=>by
     have:=Z i U;simp only[this] at Q⊢;split
     ·rename_i H;rw[Xf5 H] at Q;obtain⟨u,_,p2,_⟩:=zr j Q;exact p2
     ·rename_i H;rw[Xf1 H] at Q;exact g2 _ _ j Q) hh (by simp only[Xci];rw[BN _ _ _ aa];simp) (λk _ hk=>s1 k hk) (by omega) s3 _ aq (λi U j Q=>by
     have:=Z i U;simp only[this] at Q⊢;split
     ·rename_i H;rw[Xf5 H] at Q;obtain⟨u,p1,_,p3⟩:=zr j Q;have:J.cells.getD j Xck=u:=by
       have bg:j<J.cells.size:=by omega
       simp[bg] at p1⊢;exact p1
      rw[this];exact p3
     rename_i H;rw[Xf1 H] at Q
     exact f7 _ _ j Q)
   refine⟨_,_,_,hK,ah,?_,S,φ,m1,k1,V,λr' ae=>by simp[AV.refs,AV.refs.refsL] at ae⟩;rw[q3];have bm:n≠0:=a7;obtain⟨n',rfl⟩ :∃n',n=n'+1:=⟨n-1,by omega⟩;simp[Builtin.clear_,Xae hu,a6,ao]
 exact h.elim
def RE {obl:O (C OB)}(hT:xD P T)(m:Mem E w S φ (λr=>obl.getD r none)){t u ty e r a n mm F:Nat}{ys:O D}{vx vy:A}{K:AV->W->Prop}(hk:(T.get t).kind=.slice e) (hx :∀e' sz es frz,obl.getD r none=some (.row e' sz es frz)->mm=es.length->a+n<=mm/\((n=0/\∃a0 c,vx=.slice a0 0 c) \/∃b cap c',φ r=some (b,cap)/\vx=.slice (some ⟨b,cap.2+a*sz,none⟩) n c')) (hy:Mz S w F ys vy) (h:ZK T e r a n mm F ys obl K) : ∃a7 wr v w',K a7 wr/\(∀r o,(r,o)∈wr->r<obl.length)/\(Builtin.copy_ #[t,u] ty #[vx,vy]).run P w=.ok v w'/\zP E w S φ (λr=>obl.getD r none) a7 wr v w':=by
 unfold ZK at h;rw[Ao] at h;obtain⟨o,ho,h⟩:=h;cases o with
 | box=>simp at h
 | map=>simp at h
 | zj=>simp at h
 | gone=>simp at h
 | row e' sz es frz=>
  simp only[AI,X24] at h;obtain⟨⟨⟨⟨c1,c2⟩,c4⟩,c3⟩,hm,zs,ae,k,Z,hK⟩:=h;obtain rfl:=FZ.Fx c3;have zx:sz=(T.get e).size:=X27 c2;have aj:F=sz:=X27 c4;subst aj;obtain⟨g0,g1,g2,g3⟩:=m.obj r _ ho;obtain⟨q1,q2⟩:=hx e' _ es .no ho hm;obtain⟨i,zz,Y,ba,bj,_⟩:=(hT.of (Ar c1)).Dg;have hu:=Av hT hk;have ak :∀r' o',(r',o') ∈ [(r,OB.row e' F zs .no)]->r'<obl.length:=λr' o' al=>by simp only[X11,X23] at al;rw[al.1];exact Cb obl _ _ ho
  have a7 :∀{w':B} {S':Sc} {φ':Nat->C (Nat×Rp)} {bb:Nat->C OB},kI S' w' φ' bb (.i (k:Int)) (.int .i64 (k:Int)):=.d _ _ (.val _ rfl);by_cases a8:k=0
  ·
   have bc:zs=es:=by
    rw[<- ae,Z,a8];have:ys.take n=[]:=by
     rcases Nat.min_eq_zero_iff.1 (Z.trans a8) with h|h
     ·rw[Xag h];simp
     rw[h];simp
    rw[this];simp
   subst bc;have an:(Builtin.copy_ #[t,u] ty #[vx,vy]).run P w=.ok (.int .i64 ((0:Nat):Int)) w:=by
    have hz :∀(a2:C Addr) (l c2:Nat) (a0:C Addr) (l0 c0:Nat),Nat.min l l0=0->(Builtin.copy_ #[t,u] ty #[.slice a0 l0 c0,.slice a2 l c2]).run P w=.ok (.int .i64 ((0:Nat):Int)) w:=by intro a2 l c2 a0 l0 c0 hl;cases a0<;>cases a2<;>simp[Builtin.copy_,Xae hu,sizeOf,Xdx,Y,Builtin.lenOf,hl,Builtin.firstCells,storeCells,loadCells,loadCellsFrom,goInt]
    rw[a8] at Z;rcases q2 with ⟨h1,a0,c0,rfl⟩|⟨b,cap,c',_,rfl⟩<;>rcases hy.v with ⟨⟨a2,bk,rfl⟩,ao⟩|⟨b2,o2,aa,Q,rfl,_⟩
    ·exact hz _ _ _ _ _ _ (by simp)
    ·exact hz _ _ _ _ _ _ (by simp)
    ·exact hz _ _ _ _ _ _ (by simp)
    exact hz _ _ _ _ _ _ Z
   refine⟨_,_,_,w,hK,ak,an,S,φ,?_,?_,by rw[a8];exact .d _ _ (.val _ rfl),λr' af=>by simp[AV.refs] at af⟩;all_goals
    have:Af (λr=>obl.getD r none) [(r,OB.row e' F zs .no)]=λr=>obl.getD r none:=by
     funext q;simp only[Af];by_cases hq:q=r
     ·subst hq;rw[gS];exact ho.symm
     rw[AO _ _ _ _ hq]
    rw[this]
   ·exact m
   exact .refl _ _ _ _
  have bd:k<=n:=by omega
  have ag:k<=ys.length:=by omega
  rcases q2 with ⟨h1,_⟩|⟨b,cap,c',q2,q3⟩
  ·omega
  rcases hy.v with ⟨_,ao⟩|⟨b2,o2,aa,Q,be,hc,hr⟩
  ·rw[ao] at ag;simp at ag;omega
  rcases g3 with ⟨f1,_⟩|⟨b',H,M,f,f1,ah,f3,f4,f5,f6,f7,f8⟩
  ·rw[f1] at q2;simp at q2
  rw[f1] at q2;simp only[X21,X23] at q2;obtain⟨rfl,rfl⟩:=q2;have ap:i.size=F:=by rw[ba,zx]
  have aq:(a+n)*F<=H.1*F:=X28 _ (by omega);rw[X29] at aq;have bl:k*F<=n*F:=X28 _ bd;have V:(flat k F Q).length=k*F:=tT _ _ _;have ar :∀v∈flat k F Q,v.oneCell'=true:=by
   intro v bf;refine Mz.one rfl hy.zx hy.na hr v ?_;obtain⟨q,hq,rfl⟩:=Xai bf;rw[V] at hq;have:k*F<=ys.length*F:=X28 _ ag;have e1:(flat k F Q)[q]'(by rw[V];exact hq)=(flat ys.length F Q)[q]'(by rw[tT];omega):=by simp[flat]
   rw[e1];exact Xad _
  have ai :∀j v,(flat k F Q)[j]?=some v->w.cell? ((⟨b2,o2,none⟩:Addr).add j)=some v:=
   MU (g:=λq=>w.cell? ((⟨b2,o2,none⟩:Addr).add q)) λi j Y U=>by rw[Addr.C8];have:=hc i j (by omega) U;rw[Xc5] at this;exact this
  have bg:=run_firstCells_some (P:=P) w F k ⟨b2,o2,none⟩ ys.length aa (flat k F Q) V ai;have au:=run_storeCells_at P b' (H.2+a*F) e' (flat k F Q) 0 M w ah (by rw[V];omega) ar;have ab:H.2+a*F+(flat k F Q).length<=M.toList.length:=by rw[V];simp;omega
  have bh:(M.toList.take (H.2+a*F+0)++flat k F Q++M.toList.drop (H.2+a*F+0+(flat k F Q).length))=BC M.toList (H.2+a*F) (flat k F Q):=rfl;rw[bh] at au;obtain⟨s1,s2,s3⟩:=IF w b' (BC M.toList (H.2+a*F) (flat k F Q)).toArray;have hh:=setRow_heap w b' M (BC M.toList (H.2+a*F) (flat k F Q)).toArray e' (0,0) ah;have bi:(ys.take n).length=k:=by rw[X15];omega
  have ax:zs.length=es.length:=by rw[<- ae,X2,X2,bi,X15,X14];omega
  have a6 :∀i (Y:i<zs.length),zs[i]=if h:a<=i/\i<a+k then ys[i-a]'(by omega) else es[i]'(by omega):=by
   intro i Y;subst ae;by_cases h1:i<a
   ·rw[Xf1 (by omega),Xaq (by simp;omega),Xaq (by simp;omega)];simp
   by_cases h2:i<a+k
   ·rw[Xf5 ⟨by omega,h2⟩,Xaq (by simp;omega),Xbl (by simp;omega)];simp only[Xc1,X15];congr 1;omega
   rw[Xf1 (by omega),Xbl (by simp;omega)];simp only[Xbx];congr 1;simp;omega
  have ay :∀i j,i<zs.length->j<F->(BC M.toList (H.2+a*F) (flat k F Q)).toArray[H.2+(i*F+j)]?=some (if a<=i/\i<a+k then Q (i-a) j else f i j):=by
   intro i j Y U;have:=ED M.toList (H.2+a*F) (flat k F Q) ab (H.2+(i*F+j));rw[V] at this;simp only[Xe5,this];by_cases J:a<=i/\i<a+k
   ·have k1:a*F<=i*F:=X28 _ J.1;have k2:(i+1)*F<=(a+k)*F:=X28 _ J.2;rw[X29,X29] at k2;rw[Xa2 ⟨by omega,by omega⟩,Xa2 J];have e3:H.2+(i*F+j)-(H.2+a*F)=(i-a)*F+j:=by rw[Nat.sub_mul];omega
    rw[e3];exact flat_get Q (by omega) U
   rw[Xa1 J,Xa1]
   ·simpa using f6 i j (by omega) U
   rintro⟨k1,k2⟩;rcases Xei i a with h|h
   ·have:(i+1)*F<=a*F:=X28 _ h;rw[X29] at this;omega
   have:(a+k)*F<=i*F:=X28 _ (by omega);rw[X29] at this;omega
  obtain⟨m1,k1⟩:=m.Mk (es':=zs) ho f1 ah ax (λi Y=>by
    rw[a6 i Y];split
    ·exact hy.zx _ _
    ·exact g1 _ _) (λi Y j U=>by
    have:=a6 i Y;simp only[this] at U⊢;split
    ·rename_i J;rw[Xf5 J] at U;exact hy.na _ _ j U
    ·rename_i J;rw[Xf1 J] at U;exact g2 _ _ j U) hh (by simp only[Xci];rw[BN _ _ _ ab];simp) (λk _ hk=>s1 k hk) (by omega) s3 _ ay (λi Y j U=>by
    have:=a6 i Y;simp only[this] at U⊢;split
    ·rename_i J;rw[Xf5 J] at U;exact hr _ _ j U
    rename_i J;rw[Xf1 J] at U
    exact f7 _ _ j U)
  refine⟨_,_,_,_,hK,ak,?_,S,φ,m1,k1,a7,λr' af=>by simp[AV.refs] at af⟩;rw[q3,be];have az:Nat.min ys.length n=k:=Z;simp[Builtin.copy_,Xae hu,sizeOf,Xdx,Y,Builtin.lenOf,az,ap,bg,au,goInt]
def YD {obl:O (C OB)}(Z:xD P T)(m:Mem E w S φ (λr=>obl.getD r none)){t u ty:Nat}{x y:AV}{vx vy:A}{K:AV->W->Prop}(hx:kI S w φ (λr=>obl.getD r none) x vx) (hy:kI S w φ (λr=>obl.getD r none) y vy) (h:iJ T t x y obl K) : ∃H wr v w',K H wr/\(∀r o,(r,o)∈wr->r<obl.length)/\(Builtin.copy_ #[t,u] ty #[vx,vy]).run P w=.ok v w'/\zP E w S φ (λr=>obl.getD r none) H wr v w':=by
 unfold iJ at h;split at h
 ·rename_i e hk;obtain⟨a6,ys,h,J⟩:=Kr m hy h;split at h
  ·rename_i r n;refine RE Z m hk (λe' sz es M U V=>?_) J h;cases hx with|own _ _ _ k c a0 hv Q Y a7=>
   refine⟨by omega,?_⟩;rcases (Y _ _ _ _ U).2 V with ⟨f1,f2,a9,f3⟩|⟨b,F,f1,f3⟩
   ·exact .inl ⟨f2,a9,0,f3⟩
   exact .inr ⟨b,F,F.1,f1,by simpa using f3⟩
  ·rename_i r a n mm;refine RE Z m hk (λe' sz es M U V=>?_) J h;cases hx with|Fc _ _ _ _ _ k c a0 hv Q Y=>
   obtain⟨q1,q2,_⟩:=(Y e' sz es M U).2 V;refine⟨q1,?_⟩;rcases q2 with q2|⟨b,F,c',q2,q3,_⟩
   ·exact .inl ⟨q2,a0,c,by rw[hv,Q,q2]⟩
   exact .inr ⟨b,F,c',q2,q3⟩
  exact h.elim
 exact h.elim
def P8 {t u ty e:TypeId}{i:TypeInfo}{z:A}(H:P.underlying t=some (.slice e))(J:P.underlying u=some (.int .i64))(K:P.info? e=some i)(M:i.zero=some z)(Q:z.cells.size=i.size)(zx:0<i.size) {n:Int} (h0:0<n) (h1:n<=1048576) (U:i.bytes<=65536) : (Xc0 #[t,u] ty #[.slice none 0 0,.int .i64 n]).run P w = .ok (.slice (some ⟨w.heap.size,0,none⟩) n.toNat (Xec w n.toNat 0 e)) (w.drew.alloc (.cells (Xac z.cells n.toNat++Xac z.cells (Xec w n.toNat 0 e-n.toNat)) e)):=by
 obtain⟨m,rfl⟩ :∃m:Nat,n=m:=⟨n.toNat,by omega⟩;have V:Xda.wrap (m:Int)=m:=by rw[IntKind.wrap_i64];omega
 have F:m≠0:=by omega
 have Y:m*i.bytes<=1048576*65536:=Nat.mul_le_mul (by omega) U;have Z:¬ ((m:Int)<0):=by omega
 have c2:¬ (281474976710656<(m:Int)*(i.bytes:Int)):=by
  have:((m*i.bytes:Nat):Int)<=68719476736:=by omega
  rw[Int.natCast_mul] at this;omega
 have c3:m*i.size≠0:=Nat.mul_ne_zero F (by omega);have c4:¬ (281474976710656<Builtin.nextslicecap m 0*i.bytes):=by rw[nextslicecap_zero (by omega)];omega
 have c5:¬ (9223372036854775807<(m:Int)):=by omega
 simp[Xc0,Xae H,Xae J,sizeOf,Xdx,zeroValue,K,M,asInt,asIntOf,V,Z,c2,F,c3,c4,c5,Nat.pos_iff_ne_zero.1 zx,Question.forced,run_firstCells_none,newRow,Xec]
def jh {z:Array A}{n:Nat}:flat n z.size (λ_ j=>z.getD j Xck)=(Xac z n).toList:=by
 refine List.ext_getElem (by rw[tT,Xba,size_zeroCells]) λk F K=>?_;rw[tT] at F;have H:0<z.size:=by
  rcases Nat.eq_zero_or_pos z.size with h|h
  ·rw[h] at F;simp at F
  exact h
 have J:=Xeu k H;simp[flat,Xac,J]
def nO {t u ty e:TypeId}{i:TypeInfo}{z:A}(ht:P.underlying t=some (.slice e))(hu:P.underlying u=some (.int .i64))(hi:P.info? e=some i)(hz:i.zero=some z)(U:z.cells.size=i.size)(zx:0<i.size) {n:Nat} (V :∀v∈(Xac z.cells n).toList,v.oneCell'=true) (h1:n<=1048576) (hb:i.bytes<=65536):MG P w t u ty e z i i.size n (λ_ j=>z.cells.getD j Xck) (.int .i64 (n:Int)):=by
 have hw:Xda.wrap (n:Int)=n:=by rw[IntKind.wrap_i64];omega
 have ai:n*i.bytes<=1048576*65536:=Nat.mul_le_mul h1 hb;have c1:¬ ((n:Int)<0):=by omega
 have c2:¬ (281474976710656<(n:Int)*(i.bytes:Int)):=by
  have:((n*i.bytes:Nat):Int)<=68719476736:=by omega
  rw[Int.natCast_mul] at this;omega
 have hf:flat n i.size (λ_ j=>z.cells.getD j Xck)=(Xac z.cells n).toList:=by rw[<- U];exact jh
 have J:i.size≠0:=by omega
 refine⟨λh0 a m c aa=>?_,λh0 a0 aj=>?_,λh0 g o F H ab hg M Y=>?_,λh0 b F H Z ae Q hg ak Y=>?_⟩
 ·have af:Xda.wrap 0=0:=by rw[IntKind.wrap_i64];omega
  subst h0;cases a<;>simp[Xc0,Xae ht,Xae hu,sizeOf,Xdx,zeroValue,hi,hz,asInt,asIntOf,af,aa,storeCells]
 ·have K:n≠0:=by omega
  have c3:n*i.size≠0:=Nat.mul_ne_zero K J;have c4:¬ (281474976710656<Builtin.nextslicecap n 0*i.bytes):=by rw[nextslicecap_zero (by omega)];omega
  have c5:¬ (9223372036854775807<(n:Int)):=by omega
  rw[hf];cases a0<;>simp[Xc0,Xae ht,Xae hu,sizeOf,Xdx,zeroValue,hi,hz,asInt,asIntOf,hw,c1,c2,K,c3,c4,c5,J,Question.forced,run_firstCells_none,newRow,Xec,Builtin.firstCells,loadCells,loadCellsFrom]
 ·have K:n≠0:=by omega
  have c3:n*i.size≠0:=Nat.mul_ne_zero K J;have a6:=run_storeCells_at P g (o+F*i.size) e (Xac z.cells n).toList 0 ab w hg (by rw[Xba,size_zeroCells,U];omega) V;simp only[Xcy] at a6;rw[hf];simp[Xc0,Xae ht,Xae hu,sizeOf,Xdx,zeroValue,hi,hz,asInt,asIntOf,hw,c1,c2,K,c3,J,M,Addr.add_lit,a6]
 have K:n≠0:=by omega
 have c3:n*i.size≠0:=Nat.mul_ne_zero K J;have ag:¬ (F+n<=H):=by omega
 have a7:¬ (9223372036854775807<((F:Int)+(n:Int))):=by omega
 have a8:¬ (281474976710656<Builtin.nextslicecap (F+n) H*i.bytes):=by omega
 have ah:=run_firstCells_some (P:=P) w.drew i.size F b F H Z ae (by simpa using Q);rw[hf];simp[Xc0,Xae ht,Xae hu,sizeOf,Xdx,zeroValue,hi,hz,asInt,asIntOf,hw,c1,c2,K,c3,J,ag,a7,a8,Question.forced,ah,newRow,Xec]
def aD {obl:O (C OB)}(hT:xD P T)(m:Mem E w S φ (λr=>obl.getD r none)){t u ty self:Nat}{x n:AV}{vx vn:A}{K:AV->W->Prop} (hx:kI S w φ (λr=>obl.getD r none) x vx) (hn:kI S w φ (λr=>obl.getD r none) n vn) (h:iG T t u self x n obl K) : ∃a8 wr v w',K a8 wr/\(∀r o,(r,o)∈wr->r<obl.length)/\(Xc0 #[t,u] ty #[vx,vn]).run P w=.ok v w'/\zP E w S φ (λr=>obl.getD r none) a8 wr v w':=by
 unfold iG at h;split at h
 ·rename_i e bj n hk al;rw[En,AI,X24,X24,X24] at h;obtain⟨Y,⟨⟨⟨an,ao⟩,ap⟩,V⟩,⟨b1,b2,b4⟩,z,hz,zs,aq,hK⟩:=h;have aa:0<(T.get e).size:=X26 ap;obtain⟨ar,au⟩:=CQ Y;have ax:=hT.of (Ar ao);obtain⟨ie,F,ay,az,bk,ba,ab,bb,ae⟩:=ax.Dg;obtain rfl:=hn.int;cases hx with|d _ _ hx=>
  cases hx with|nil=>
  have bc:P.underlying u=some (.int .i64):=by have:=(hT.of (Ar an)).kind;rw[al] at this;exact this
  have af:=P8 (P:=P) (w:=w) (ty:=ty) (Av hT hk) bc ay ba (by rw[ab,az]) (by omega) b1 b2 (by omega);have ag:z.cells=(T.get e).zero.map λx=>match x with
    | .nil sz=>.Cg sz []
    | x=>x:=by
   rw[<- hz];split
   ·rfl
   rename_i bd;have h1:(T.get e).size=1:=by
    split at V
    ·rename_i hq;exact absurd hq bd
    exact X27 V
   have hl:(T.get e).zero.length=1:=by omega
   obtain⟨x,hx⟩:=List.length_eq_one_iff.1 hl;have ah :∀y∈(T.get e).zero,y.isAgg=false:=by
    intro y hy;obtain⟨j,H,rfl⟩:=Xai hy;have J:j<F.cells.size:=by omega
    exact (Ls (S:=S) (w:=w) (ae j H F.cells[j] (by simp[J]))).1
   rw[hx] at ah⊢;have:=ah x (by simp);cases x<;>first|rfl|simp[D.isAgg] at this
  have ai:z.cells.length=(T.get e).size:=by rw[ag];simp[bb]
  have Q :∀j (H:j<z.cells.length),∃u,F.cells[j]?=some u/\z.cells[j].isAgg=false/\zf S w z.cells[j] u:=by
   intro j H;have be:j<(T.get e).zero.length:=by rw[ai] at H;omega
   have J:j<F.cells.size:=by omega
   have bf:=ae j be F.cells[j] (by simp[J]);refine⟨F.cells[j],by simp[J],?_⟩
   have e1:z.cells[j]=(match (T.get e).zero[j] with
    | .nil sz=>.Cg sz []
    | x=>x):=by simp[ag]
   rw[e1];obtain⟨a1,Z⟩:=Ls (S:=S) (w:=w) bf;cases hq:(T.get e).zero[j] with
   | nil sz=>rw[hq] at Z;generalize F.cells[j]=u at Z⊢;cases Z;exact⟨rfl,.zZ _ _ _⟩
   | val v=>rw[hq] at a1 Z;exact⟨a1,Z⟩
   | agg cs=>rw[hq] at a1;simp[D.isAgg] at a1
   | Cg sz es=>rw[hq] at a1 Z;exact⟨rfl,Z⟩
  subst aq;have a6 :∀i (M:i<(Xaa n.toNat z).length),(Xaa n.toNat z)[i]=z:=by intro i M;simp
  refine⟨_,_,_,_,hK,λr o hm=>?_,af,?_⟩
  ·simp only[X11,X23] at hm;rw[hm.1];exact au
  have aj:=grownCap_ge w n.toNat 0 e;have ak:=grownCap_le_maxLen w n.toNat 0 e (by simp only[Xc7];omega);generalize Xec w n.toNat 0 e=cap at aj ak⊢;obtain⟨md,kd⟩:=m.drew;have a7:F.cells.size=(T.get e).size:=ab;have zx:(Xac F.cells n.toNat++Xac F.cells (cap-n.toNat)).size=cap*(T.get e).size:=by rw[Array.size_append,size_zeroCells,size_zeroCells,a7,<- X29];congr 1;omega
  have bg :∀i j,i<n.toNat->j<(T.get e).size->(Xac F.cells n.toNat++Xac F.cells (cap-n.toNat))[i*(T.get e).size+j]?=F.cells[j]?:=by intro i j M H;have bh:(i+1)*(T.get e).size<=n.toNat*(T.get e).size:=X28 _ (by omega);rw[X29] at bh;rw[Xbm (by rw[size_zeroCells,a7];omega)];have:=Hh F.cells n.toNat i j M (by omega);rw[a7] at this;exact this
  obtain⟨m2,k2⟩:=md.alloc self (cap,0) (.row e (T.get e).size (Xaa n.toNat z) .no) (Xac F.cells n.toNat++Xac F.cells (cap-n.toNat)) e ar (λr hr=>by simp[OB.refs] at hr) (λbi=>by
   refine⟨aa,λi M=>by rw[a6 i M];exact ai,λi M j H=>?_,.inr ⟨w.drew.heap.size,(cap,0),Xac F.cells n.toNat++Xac F.cells (cap-n.toNat),λi j=>F.cells.getD j Xck,gS _ _ _,heap_alloc_new w.drew _,by simpa using aj,?_,Nat.le_of_eq ((Xbc _).trans zx.symm),λi j M H=>?_,λi M j H=>?_,λo _ ho=>absurd (md.bS _ _ ho) (Xep _),λ_ _ _ _ h=>nomatch h⟩⟩
   ·have:=a6 i M;simp only[this] at H⊢;exact (Q j H).choose_spec.2.1
   ·exact ak
   ·simp only[X17] at M;simp only[Xbc];rw[bg i j M H];have J:j<F.cells.size:=by omega
    simp[J]
   have:=a6 i M;simp only[this] at H⊢;obtain⟨u,q1,q2,q3⟩:=Q j H;have:F.cells.getD j Xck=u:=by simp[q1]
   rw[this]
   exact (q3.mono kd.k).mono bi.k)
  refine⟨S,_,m2,kd.trans k2,?_,?_⟩
  ·refine .own self _ _ n.toNat cap (some ⟨w.heap.size,0,none⟩) rfl (by simp) (λe2 bl bm f2 U=>?_) (λcs U=>?_)
   ·simp only[Af,gS,X21,OB.row.injEq] at U;obtain⟨rfl,rfl,rfl,rfl⟩:=U;exact⟨by simp,λ_=>.inr ⟨_,_,gS _ _ _,by simp⟩⟩
   simp[Af] at U
  intro r hr;simp only[AV.refs,X11] at hr;subst hr;simp[Af]
 exact h.elim
def eO (J:xD P T){t ty:Nat}{x:AV}{H:A}{K:AV->Prop}(F:kI S w φ ob x H)(h:ri T t x K) : GW K ((Builtin.cap_ #[t] ty #[H]).run P w) w:=by
 unfold ri at h;split at h
 ·rename_i hk;cases F with|d _ _ F=>
  cases F with|nil=>
  exact⟨_,rfl,h,by simp[Builtin.cap_,Xae (Av J hk),goInt]⟩
 exact h.elim
end
end Go.AX
end
