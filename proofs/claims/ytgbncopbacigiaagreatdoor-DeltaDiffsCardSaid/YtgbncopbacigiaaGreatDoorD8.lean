/-
  Texts of one proof, packed.
-/
import Derived.Test.YtgbncopbacigiaaGreatDoorD7
import Derived.MapKept
set_option linter.all false
set_option maxRecDepth 100000
set_option maxHeartbeats 4000000
open List renaming length_map→X10,length_append→X11,mem_singleton→X14,length_drop→X17,length_take→X18,length_replicate→X20,length_set→X21,mem_append→X23
open Option.some renaming injEq→X24,inj→X25
open Prod.mk renaming injEq→X26
open Bool renaming and_eq_true→X27
open Nat renaming le_of_ble_eq_true→X29,eq_of_beq_eq_true→X30,mul_le_mul_right→X31,add_mul→X32
open Go.Result renaming andThen_ok→Xa1
open Go renaming run_underlying→Xa5,MapEntry→Xbn,undef→Xc3
open Nat renaming beq→Xa6,blt→Xbr
open Go.Sem renaming run_bind→Xa9,run_pure→Xbz
open Go.Builtin renaming zeroCells→Xaf
open Go.Instr renaming findNow→Xbm,sureAddr→Xbu,loadAt→Xcg
open Go.MapKept renaming run_getObj_map→Xcl
open Go.Value renaming cells→Xdj
section
namespace Go.AX
open MapKept
section
variable {P:Program} {T:TT} {E:Env} {w:B} {S:Sc} {φ:Nat->C (Nat×Rp)} {ob:Nat->C OB}
def Ja (Q:rc P T){k:Nat}(U:IB (T.get k).kind=true)(K:A2 T k=true) :∃d,P.underlying k=some d/\(∀u,IF (T.get k).kind u=true->IsKey d u)/\ ∀(u F:A) (b:I),C7 (T.get k).kind (.val u) (.val F)=some b->Instr.sameNow d u F=some b/\(b=true->F=u):=by
 have h:=(Q.of (Ax K)).kind;cases M:(T.get k).kind<;>simp[M,IB] at U<;>rw[M] at h<;>simp only[rW] at h
 ·refine⟨_,h,λu J=>by cases u<;>simp[IF] at J<;>simp[IsKey],λu F b H=>?_⟩;cases u<;>cases F<;>simp[C7] at H;subst H;exact⟨rfl,λe=>by simp at e;rw[e]⟩
 ·rename_i V;refine⟨_,h,λu J=>by cases u<;>simp[IF] at J<;>simp[IsKey,J],λu F b H=>?_⟩;cases u<;>cases F<;>simp[C7] at H;obtain⟨rfl,rfl⟩:=H;exact⟨by simp[Instr.sameNow],λe=>by simp at e;rw[e]⟩
 refine⟨_,h,λu J=>by cases u<;>simp[IF] at J<;>simp[IsKey],λu F b H=>?_⟩;cases u<;>cases F<;>simp[C7] at H;subst H;exact⟨rfl,λe=>by rw[(bytes_beq _ _).1 e]⟩
def rM.tail {p:D×D}{es:O (D×D)}{x:Xbn}{l:O Xbn}(h:rM S w (p::es) (x::l)):(∃u,p.1=.val u/\x.key=u/\u.oneCell'=true)/\rH S w p.2 x.val/\rM S w es l:=by obtain⟨H,F⟩:=h;obtain⟨y,e,a,b⟩:=F 0 (by simp);simp at e;subst e;refine⟨a,b,by simpa using H,λi J=>?_⟩;obtain⟨y,e,a,b⟩:=F (i+1) (by simpa using J);exact⟨y,by simpa using e,a,b⟩
def M5 {tk:TK}{d:TypeDesc}{u:A}(V :∀(J:A) (b:I),C7 tk (.val u) (.val J)=some b->Instr.sameNow d u J=some b/\(b=true->J=u)) : ∀(es:O (D×D)) (l:O Xbn) (off:Nat) (q:C D),rM S w es l->BU tk (.val u) es=some q-> (q=none/\Xbm d u l off=some none/\∀v,ER tk (.val u) v es=some (es++[(.val u,v)])) \/ ∃j x v,q=some v/\l[j]?=some x/\x.key=u/\j<es.length/\rH S w v x.val/\Xbm d u l off=some (some (off+j,x.val))/\∀v,ER tk (.val u) v es=some (es.set j (.val u,v))
 | [],[],off,q,_,F=>by simp[BU] at F;exact .inl ⟨F.symm,rfl,λv=>rfl⟩
 | [],_::_,_,_,h,_=>by simp[rM] at h
 | _::_,[],_,_,h,_=>by simp[rM] at h
 | p::es,x::l,off,q,h,F=>by
  obtain⟨⟨J,e1,e2,_⟩,Y,Z⟩:=h.tail;simp only[BU,e1] at F;cases H:C7 tk (.val u) (.val J) with
  | none=>simp[H] at F
  | some b=>
   obtain⟨K,s2⟩:=V J b H;cases b with
   | true=>simp only[H,X24] at F;exact .inr ⟨0,x,p.2,F.symm,rfl,by rw[e2];exact s2 rfl,by simp,Y,by simp[Xbm,e2,K],λv=>by simp[ER,e1,H]⟩
   | false=>
    simp only[H] at F;rcases M5 V es l (off+1) q Z F with ⟨M,Q,U⟩|⟨j,y,v,M,Q,U,g4,g5,g6,g7⟩
    ·exact .inl ⟨M,by simp[Xbm,e2,K,Q],λv=>by simp[ER,e1,H,U]⟩
    exact .inr ⟨j+1,y,v,M,by simpa using Q,U,by simp;omega,g5,by simp[Xbm,e2,K,g6];omega,λv=>by simp[ER,e1,H,g7]⟩
def QE {tk:TK}{x v:D} :∀{es zs:O (D×D)},ER tk x v es=some zs->∃q,BU tk x es=some q
 | [],_,_=>⟨none,rfl⟩
 | p::es,zs,h=>by
  simp only[ER] at h;simp only[BU];cases F:C7 tk x p.1 with
  | none=>simp[F] at h
  | some b=>
   cases b with
   | true=>exact⟨_,rfl⟩
   | false=>simp only[F,Xc2] at h;obtain⟨H,J,_⟩:=h;exact QE J
def QA {r k e:Nat}{es:O (D×D)}(h:tc S w φ ob r (.map k e es)) :∃b c arr F,φ r=some (b,c)/\w.heap[b]?=some (.map arr F)/\((∀o,¬ S b o)/\sC arr F)/\rM S w es arr.toList:=by obtain⟨b,c,arr,F,J,K,H,M,Q⟩:=h;exact⟨b,c,arr,F,J,K,⟨M,H.2⟩,by simpa using H.1,λi U=>by simpa using Q i U⟩
def NL {r k e H n:Nat}{J:A}{es:O (D×D)}(h:tc S w φ ob r (.rK k e es J H n)) :∃b c arr F,φ r=some (b,c)/\w.heap[b]?=some (.map arr F)/\((∀o,¬ S b o)/\sC arr F)/\rM S w es arr.toList/\ sY J (gM S w φ ob (.own H n)) arr.toList:=by obtain⟨b,c,arr,F,M,Q,K,U,V,Y⟩:=h;exact⟨b,c,arr,F,M,Q,⟨U,K.2⟩,⟨by simpa using K.1,λi Z=>by simpa using V i Z⟩,Y⟩
def It (tk:TK)(u:A):C7 tk (.val u) (.val u)≠some false:=by cases tk<;>cases u<;>simp[C7];exact (bytes_beq _ _).2 rfl
def N3 {tk:TK}{d:TypeDesc}{u:A}{Q:A->Prop}(U :∀(H:A) (b:I),C7 tk (.val u) (.val H)=some b->Instr.sameNow d u H=some b/\(b=true->H=u)) : ∀(es:O (D×D)) (l:O Xbn) (off:Nat) (q:C D),rM S w es l->BU tk (.val u) es=some q->sY u Q l->(q=none->Q (.slice none 0 0))/\∀p,Xbm d u l off=some (some p)->Q p.2
 | [],[],off,q,_,F,K=>⟨λ_=>K,λp hp=>by simp[Xbm] at hp⟩
 | [],_::_,_,_,h,_,_=>by simp[rM] at h
 | _::_,[],_,_,h,_,_=>by simp[rM] at h
 | p::es,x::l,off,q,h,F,K=>by
  obtain⟨⟨H,e1,e2,_⟩,hv,Y⟩:=h.tail;simp only[BU,e1] at F;cases J:C7 tk (.val u) (.val H) with
  | none=>simp[J] at F
  | some b=>
   obtain⟨V,Z⟩:=U H b J;cases b with
   | true=>simp only[J,X24] at F;refine⟨λe=>by rw[<- F] at e;simp at e,λp hp=>?_⟩;simp only[Xbm,e2,V,X24] at hp;rw[<- hp];exact K.1 (by rw[e2];exact Z rfl)
   | false=>
    simp only[J] at F;have M:x.key≠u:=λhe=>by rw[<- e2,he] at J;exact It _ _ J
    obtain⟨g1,g2⟩:=N3 U es l (off+1) q Y F (K.2 M);exact⟨g1,λp hp=>g2 p (by simpa[Xbm,e2,V] using hp)⟩
def NP {tk:TK}{d:TypeDesc}{u:A}{Q:A->Prop}(Y :∀(H:A) (b:I),C7 tk (.val u) (.val H)=some b->Instr.sameNow d u H=some b/\(b=true->H=u)){y:Xbn}(Z:y.key=u)(hQ:Q y.val) {f:Xbn->Xbn} (M :∀x,(f x).key=u/\Q (f x).val) : ∀(es:O (D×D)) (l:O Xbn) (off:Nat) (q:C D),rM S w es l->BU tk (.val u) es=some q-> (q=none->sY u Q (l++[y]))/\∀j v,Xbm d u l off=some (some (off+j,v))->sY u Q (l.modify j f)
 | [],[],off,q,_,F=>⟨λ_=>⟨λ_=>hQ,λe=>absurd Z e⟩,λj v hp=>by simp[Xbm] at hp⟩
 | [],_::_,_,_,h,_=>by simp[rM] at h
 | _::_,[],_,_,h,_=>by simp[rM] at h
 | p::es,x::l,off,q,h,F=>by
  obtain⟨⟨H,e1,e2,_⟩,hv,ht⟩:=h.tail;simp only[BU,e1] at F;cases J:C7 tk (.val u) (.val H) with
  | none=>simp[J] at F
  | some b=>
   obtain⟨s1,s2⟩:=Y H b J;cases b with
   | true=>
    simp only[J,X24] at F;refine⟨λe=>by rw[<- F] at e;simp at e,λj v hp=>?_⟩;simp only[Xbm,e2,s1,X24,X26] at hp;obtain rfl:j=0:=by omega
    simp only[List.modify_zero_cons];exact⟨λ_=>(M x).2,λe=>absurd (M x).1 e⟩
   | false=>
    simp only[J] at F;have K:x.key≠u:=λhe=>by rw[<- e2,he] at J;exact It _ _ J
    obtain⟨g1,g2⟩:=NP Y Z hQ M es l (off+1) q ht F;refine⟨λe=>⟨λU=>absurd U K,λ_=>g1 e⟩,λj v hp=>?_⟩;simp only[Xbm,e2,s1] at hp;cases j with
    | zero=>
     have V :∀(l:O Xbn) (o:Nat) (p:Nat×A),Xbm d u l o=some (some p)->o<=p.1:=by
      intro l;induction l with
      | nil=>intro o p h;simp[Xbm] at h
      | cons a l ih=>
       intro o p h;simp only[Xbm] at h;split at h
       ·simp only[X24] at h;rw[<- h];exact Xa8 _
       ·exact Nat.le_of_succ_le (ih _ _ h)
       simp at h
     have:=V l (off+1) _ hp;exact absurd this (by simp)
    | succ j=>simp only[List.modify_succ_cons];exact⟨λU=>absurd U K,λ_=>g2 j v (by rw[hp];congr 3;omega)⟩
def Is {tk:TK}{u:A}{Q:A->Prop}(K:C7 tk (.val u) (.val u)≠some false) :∀(es:O (D×D)) (l:O Xbn),rM S w es l->BU tk (.val u) es=some none->Q (.slice none 0 0)->sY u Q l
 | [],[],_,_,J=>J
 | [],_::_,h,_,_=>by simp[rM] at h
 | _::_,[],h,_,_=>by simp[rM] at h
 | p::es,y::l,h,F,J=>by
  obtain⟨⟨M,e1,e2,_⟩,Y,U⟩:=h.tail;simp only[BU,e1] at F;cases H:C7 tk (.val u) (.val M) with
  | none=>simp[H] at F
  | some b=>
   cases b with
   | true=>simp[H] at F
   | false=>simp only[H] at F;exact⟨λV=>by rw[<- e2,V] at H;exact absurd H K,λ_=>Is K es l U F J⟩
def ZP (V:rc P T){e:Nat}(F:A2 T e=true)(M:Qq T e=true):(zeroValue e).run P w=.ok (.slice none 0 0) w:=by
 obtain⟨Z,H,J,a6,a7,K,a8,aa,Q⟩:=(V.of (Ax F)).sV;obtain⟨a1,a2⟩:=(V.of (Ax F)).xn Z H J K;unfold Qq at M;split at M
 ·rename_i q s h1 Y;have U:=a2 (by rw[h1];rfl);have hz:H.cells=#[H]:=by cases H<;>first|rfl|exact absurd rfl (U _)
  have:=Q 0 (by rw[Y];simp) H (by rw[hz];rfl);simp only[Y,Xb5,IH] at this;subst this;simp[zeroValue,typeInfo,J,K]
 simp at M
def TE (hT:rc P T){e:Nat}(J:A2 T e=true)(ae:0<(T.get e).size)(K:QP T e=true) :∃z,(zeroValue e).run P w=.ok z w/\rH S w (MM T e) z:=by
 obtain⟨ie,H,M,af,ag,Q,U,a6,a7⟩:=(hT.of (Ax J)).sV;refine⟨H,by simp[zeroValue,typeInfo,M,Q],?_⟩;unfold MM;refine rH.norm ?_;obtain⟨a1,a2⟩:=(hT.of (Ax J)).xn ie H M Q;have F :∀j (hj:j<(T.get e).zero.length),∃u,H.cells[j]?=some u/\(T.get e).zero[j].isAgg=false/\rH S w (T.get e).zero[j] u:=by
  intro j hj;have V:j<H.cells.size:=by omega
  have a8:=a7 j hj H.cells[j] (by simp[V]);obtain⟨a1,a2⟩:=QX (S:=S) (w:=w) a8;exact⟨_,by simp[V],a1,a2⟩
 unfold QP at K;split
 ·rename_i Y;obtain⟨Z,rfl⟩:=a1 Y;refine .agg _ Z (λi=>Z.getD i Xc3) (by simpa[Xdj,a6] using U) (λi hi=>?_) (λi hi=>(F i hi).choose_spec.2.1) λi hi=>?_
  ·have:i<Z.size:=by have:=U;simp only[Xdj] at this;omega
   simp[this]
  obtain⟨u,q1,q2,q3⟩:=F i hi;have q1:Z[i]?=some u:=q1;simp only[Array.getD_eq_getD_getElem?,q1,Xao];exact q3
 rename_i Y;have K:Xa6 (T.get e).size 1=true:=by
  split at K
  ·rename_i hq;exact absurd hq Y
  exact K
 have K:=X30 K;have aa:(T.get e).kind.sG=some false:=by
  have:=Ax J;cases hq:(T.get e).kind.sG with
  | none=>exact absurd hq this
  | some b=>cases b with
   | true=>exact absurd hq Y
   | false=>rfl
 have ab:=a2 aa;have hz:H.cells=#[H]:=by cases H<;>first|rfl|exact absurd rfl (ab _)
 have hl:(T.get e).zero.length=1:=by omega
 obtain⟨x,hx⟩:=List.length_eq_one_iff.1 hl;obtain⟨u,q1,q2,q3⟩:=F 0 (by omega);rw[hz] at q1;simp at q1;subst q1;simp only[hx,Xb5] at q3;rw[hx];exact q3
def U9 {obl:O (C OB)}(hT:rc P T){t k e:Nat}{Q kv:A}{ok:I}{K:AV->Prop}{es:O (D×D)}{bb:Nat}{arr:Array Xbn}{H:Nat}(F:(T.get t).kind=.map k e) (hk:gM S w φ (λr=>obl.getD r none) (.d (.val kv)) Q) (c0:IF (T.get k).kind kv=true) (c1:IB (T.get k).kind=true) (c2:A2 T k=true) (c3:A2 T e=true) (c4:Xbr 0 (T.get e).size=true) (c5:QP T e=true) (h2:w.heap[bb]?=some (.map arr H)) (h4:rM S w es arr.toList) (h :∃q,BU (T.get k).kind (.val kv) es=some q/\∃v,q.getD (MM T e)=v/\∃b,q.isSome=b/\K (match (generalizing:=false) ok with
     | true=>.sH [.d v,.b b]
     | false=>.d v)) :∃out u,K out/\(Instr.lookup t (.map (some bb)) Q ok).run P w=.ok u w/\gM S w φ (λr=>obl.getD r none) out u/\gO (λr=>obl.getD r none) out:=by
 obtain⟨q,hq,v,hv,b,hb,hK⟩:=h;obtain⟨d,hd,a1,U⟩:=Ja hT c1 c2;have a6:=hk.val;subst a6;have hm:P.underlying t=some (.map k e):=by have:=(hT.of (t:=t) (by rw[F];simp[TK.sG])).kind;rwa [F] at this
 have V:0<(T.get e).size:=X29 c4;obtain⟨z,hz,Y⟩:=TE (P:=P) (w:=w) (S:=S) hT c3 V c5;have Z :∀em,(Instr.checkKey em 10000 k Q).run P w=.ok () w:=by intro em;exact run_checkKey hd (a1 _ c0) em 9999
 rcases M5 (S:=S) (w:=w) (tk:=(T.get k).kind) (d:=d) (u:=Q) (λu' b=>U Q u' b) es arr.toList 0 q h4 hq with ⟨g1,g2,_⟩|⟨j,y,v',g1,g2,g3,g4,g5,g6,_⟩
 ·subst g1;simp only[Option.getD_none,Option.isSome_none] at hv hb;subst hv hb;refine⟨_,(if ok then .tuple #[z,.bool false] else z),hK,?_,?_,?_⟩
  ·unfold Instr.lookup;simp[Xa5 hm,Xcl h2,Z,run_findKey hd g2,hz,Result.andThen]
  ·cases ok
   ·exact .d _ _ Y
   exact .sH _ _ (λi=>if i=0 then z else .bool false) rfl (λi J=>by
    match i,J with
    | 0,_=>rfl
    | 1,_=>rfl) λi J=>by
    match i,J with
    | 0,_=>exact .d _ _ Y
    | 1,_=>exact .d _ _ (.val _ rfl)
  cases ok
  ·exact A1 _ _
  intro r' M;simp[AV.refs,AV.refs.refsL] at M
 subst g1;simp only[Xao,Option.isSome_some] at hv hb;subst hv hb;refine⟨_,(if ok then .tuple #[y.val,.bool true] else y.val),hK,?_,?_,?_⟩
 ·unfold Instr.lookup;simp[Xa5 hm,Xcl h2,Z,run_findKey hd g6,Result.andThen]
 ·cases ok
  ·exact .d _ _ g5
  exact .sH _ _ (λi=>if i=0 then y.val else .bool true) rfl (λi J=>by
   match i,J with
   | 0,_=>rfl
   | 1,_=>rfl) λi J=>by
   match i,J with
   | 0,_=>exact .d _ _ g5
   | 1,_=>exact .d _ _ (.val _ rfl)
 cases ok
 ·exact A1 _ _
 intro r' M;simp[AV.refs,AV.refs.refsL] at M
def VD {obl:O (C OB)}(hT:rc P T)(m:Mem E w S φ (λr=>obl.getD r none)){t:Nat}{x key:AV}{vx U:A}{ok:I}{K:AV->Prop} (hx:gM S w φ (λr=>obl.getD r none) x vx) (hk:gM S w φ (λr=>obl.getD r none) key U) (h:YS T t x key ok obl K) : ∃out u,K out/\(Instr.lookup t vx U ok).run P w=.ok u w/\gM S w φ (λr=>obl.getD r none) out u/\gO (λr=>obl.getD r none) out:=by
 unfold YS at h;split at h
 ·rename_i k e r kv H;simp only[AH,X27,An] at h;obtain⟨⟨⟨⟨⟨⟨c0,c1⟩,c2⟩,c3⟩,c4⟩,c5⟩,o,ho,h⟩:=h;have V :∀(Q:O (D×D)),(∃b c arr F,φ r=some (b,c)/\w.heap[b]?=some (.map arr F)/\((∀o,¬ S b o)/\sC arr F)/\rM S w Q arr.toList)->
    (∃q,BU (T.get k).kind (.val kv) Q=some q/\∃v,q.getD (MM T e)=v/\∃b,q.isSome=b/\K (match (generalizing:=false) ok with
     | true=>.sH [.d v,.b b]
     | false=>.d v))->∃out u,K out/\(Instr.lookup t vx U ok).run P w=.ok u w/\gM S w φ (λr=>obl.getD r none) out u/\gO (λr=>obl.getD r none) out:=by
   intro Q ⟨bb,c,arr,F,h1,Z,h3,Y⟩ h;cases hx with|mp _ b' c' J a7 a8=>
   rw[h1] at J;simp only[X24,X26] at J;obtain⟨rfl,rfl⟩:=J;exact U9 hT H hk c0 c1 c2 c3 c4 c5 Z Y h
  cases o with
  | box=>simp at h
  | row=>simp at h
  | gone=>simp at h
  | map k' e' Q=>exact V Q (QA (m.obj r _ ho)) h
  | rK k' e' Q af r' n'=>
   obtain⟨bb,c,arr,F,h1,Z,h3,Y,h5⟩:=NL (m.obj r _ ho);rcases h with h|⟨rfl,rfl,⟨q,hq⟩,aa,hK⟩
   ·exact V Q ⟨bb,c,arr,F,h1,Z,h3,Y⟩ h
   have a1:gO (λr=>obl.getD r none) (.own r' n'):=λq hq=>m.tE r _ ho q (by simpa[AV.refs,OB.refs] using hq);obtain⟨d,hd,ab,M⟩:=Ja hT c1 c2;cases hx with|mp _ b' c' J a7 a8=>
   rw[h1] at J;simp only[X24,X26] at J;obtain⟨rfl,rfl⟩:=J;have ae:=hk.val;subst ae;have hm:P.underlying t=some (.map k e):=by have:=(hT.of (t:=t) (by rw[H];simp[TK.sG])).kind;rwa [H] at this
   have a6 :∀em,(Instr.checkKey em 10000 k U).run P w=.ok () w:=by intro em;exact run_checkKey hd (ab _ c0) em 9999
   rcases M5 (S:=S) (w:=w) (tk:=(T.get k).kind) (d:=d) (u:=U) (λu' b=>M U u' b) Q arr.toList 0 q Y hq with ⟨g1,g2,_⟩|⟨j,y,v',g1,g2,g3,g4,g5,g6,_⟩
   ·subst g1;refine⟨_,.slice none 0 0,hK,?_,(N3 (λu' b=>M U u' b) Q arr.toList 0 _ Y hq h5).1 rfl,a1⟩;unfold Instr.lookup;simp[Xa5 hm,Xcl Z,a6,run_findKey hd g2,ZP (P:=P) (w:=w) hT c3 aa,Result.andThen]
   refine⟨_,y.val,hK,?_,(N3 (λu' b=>M U u' b) Q arr.toList 0 _ Y hq h5).2 _ g6,a1⟩;unfold Instr.lookup;simp[Xa5 hm,Xcl Z,a6,run_findKey hd g6,Result.andThen]
 exact h.elim
def rM.mono {S':Sc}{w':B}(F:Q9 S w S' w'){es:O (D×D)}{l:O Xbn}(h:rM S w es l):rM S' w' es l:=
 ⟨h.1,λi H=>by obtain⟨x,a,b,c⟩:=h.2 i H;exact⟨x,a,b,c.mono F⟩⟩
def U1 {obl:O (C OB)}(U:rc P T)(m:Mem E w S φ (λr=>obl.getD r none)){t:Nat}{a:AV}{v:A}{K:AV->Prop}(V:gM S w φ (λr=>obl.getD r none) a v) (hc:gO (λr=>obl.getD r none) a) (h:ZE T E.wl.G t a obl K) : ∃out u,K out/\(Xcg t v).run P w=.ok u w/\gM S w φ (λr=>obl.getD r none) out u/\gO (λr=>obl.getD r none) out:=by
 unfold ZE at h;split at h
 ·rename_i g;split at h
  ·rename_i k e es F hG;cases V;obtain⟨J,b,arr,M,a1,g2,Q,g4,g6,g5⟩:=E.wl.ext _ _ _ (λb Y=>m.fr b (E.hg.lt b Y) (E.hg.pb b Y)) E.hg.gf g es hG;have H:(T.get t).kind.sG=some false:=by rw[F];rfl
   have hS:S g 0:=m.sS g 0 (E.hg.st g 0 J (by
    intro Z;rw[<- DT (m.fr g (E.hg.lt g J) (E.hg.pb g J)) 0,Q] at Z
    simp at Z))
   refine⟨_,_,h,?_,.gv g _ hS Q,λr hr=>by simp[AV.refs] at hr⟩;obtain⟨d,hu,hd⟩:=(U.of (t:=t) (by rw[H];simp)).kind.plain H;simp only[Xcg,Xbu,Xa9,Xbz,Xa1,Di hu hd Q]
  exact h.elim
 exact OJ U m V hc h
def Vu {obl:O (C OB)}(J:rc P T)(m:Mem E w S φ (λr=>obl.getD r none)){t:Nat}{x key:AV}{M Q:A}{ok:I}{K:AV->Prop} (U:gM S w φ (λr=>obl.getD r none) x M) (V:gM S w φ (λr=>obl.getD r none) key Q) (h:Yr T E.wl.G t x key ok obl K) : ∃out u,K out/\(Instr.lookup t M Q ok).run P w=.ok u w/\gM S w φ (λr=>obl.getD r none) out u/\gO (λr=>obl.getD r none) out:=by
 unfold Yr at h;split at h
 ·rename_i g;unfold gu at h;split at h
  ·rename_i k e es kv F hG;rw[AH] at h;simp only[X27] at h;obtain⟨⟨⟨⟨⟨⟨c0,c1⟩,c2⟩,c3⟩,c4⟩,c5⟩,h⟩:=h;obtain⟨g1,b,arr,H,a1,g2,g3,g4,g6,g5⟩:=E.wl.ext _ _ _ (λb Y=>m.fr b (E.hg.lt b Y) (E.hg.pb b Y)) E.hg.gf g es hG;cases U with|gv _ _ hS Z=>
   rw[g3] at Z;obtain rfl:=X25 Z;obtain⟨q,hq,hr⟩:=h;exact U9 J F V c0 c1 c2 c3 c4 c5 g4 (g5.mono λ_ _ hf=>hf.elim) ⟨q,g6 _ _ _ hq,hr⟩
  exact h.elim
 exact VD J m U V h
def rM.push {es:O (D×D)}{l:O Xbn}(h:rM S w es l){u:A}{v:D}{x:Xbn}(J:u.oneCell'=true)(K:x.key=u)(M:rH S w v x.val):rM S w (es++[(.val u,v)]) (l++[x]):=by
 obtain⟨H,Q⟩:=h;refine⟨by simp[H],λi U=>?_⟩;by_cases F:i<es.length
 ·obtain⟨y,a,b,c⟩:=Q i F;exact⟨y,by rw[Ww (by omega)];exact a,by rw[Xa2 F];exact b,by rw[Xa2 F];exact c⟩
 have e:i=es.length:=by simp at U;omega
 subst e;exact⟨x,by rw[Xa4 (by omega)];simp[H],by simp[K,J],by simpa using M⟩
def rM.set {es:O (D×D)}{l:O Xbn}(h:rM S w es l){j:Nat}{u:A}{v:D}{f:Xbn->Xbn}(V:j<es.length)(H:u.oneCell'=true)(J :∀y,(f y).key=u)(K :∀y,rH S w v (f y).val) : rM S w (es.set j (.val u,v)) (l.modify j f):=by
 obtain⟨M,Q⟩:=h;refine⟨by simp[M],λi U=>?_⟩;have F:i<es.length:=by simpa using U
 obtain⟨y,a,b,c⟩:=Q i F;by_cases e:j=i
 ·subst e;refine⟨f y,by rw[List.getElem?_modify];simp[a],?_,?_⟩
  ·simp only[List.getElem_set_self];exact⟨u,rfl,J y,H⟩
  simp only[List.getElem_set_self];exact K y
 refine⟨y,by rw[List.getElem?_modify];simp[a,e],?_,?_⟩
 ·rw[List.getElem_set_ne e];exact b
 rw[List.getElem_set_ne e];exact c
def H2 {obl:O (C OB)}(hT:rc P T){t k e0 r:Nat}{kv U vv vx:A}{dv:D}{wr:W}{S':Sc}(Y:(T.get t).kind=.map k e0)(c0:IF (T.get k).kind kv=true)(c1:IB (T.get k).kind=true)(c2:A2 T k=true) (hx:gM S w φ (λr=>obl.getD r none) (.mp r) vx) (hk:gM S w φ (λr=>obl.getD r none) (.d (.val kv)) U) (m':Mem E w S' φ (Ag (λr=>obl.getD r none) wr)) (k':Kept w S φ (λr=>obl.getD r none) w S' φ (Ag (λr=>obl.getD r none) wr)) (ag:rH S' w dv vv) (ao:UP obl wr) {o J:OB} (ho:obl.getD r none=some o) (ah:Ag (λr=>obl.getD r none) wr r=some o) (hh:tz (some o)=none) {k1 e1:Nat} {es zs:O (D×D)} (Z:ER (T.get k).kind (.val kv) dv es=some zs) (ai :∃b c arr H,φ r=some (b,c)/\w.heap[b]?=some (.map arr H)/\((∀o,¬ S' b o)/\sC arr H)/\rM S' w es arr.toList) (a1:J=.map k1 e1 zs \/∃M n,J=.rK k1 e1 zs kv M n/\Ag (λr=>obl.getD r none) wr M≠none/\gM S' w φ (Ag (λr=>obl.getD r none) wr) (.own M n) vv) : ∃w',(∀M o',(M,o')∈wr++[(r,J)]->M<obl.length)/\(Instr.mapUpdate t vx U vv).run P w=.ok () w'/\s6 E w S φ (λr=>obl.getD r none) .dead (wr++[(r,J)]) Xc3 w':=by
 obtain⟨d,hd,ab,a6⟩:=Ja hT c1 c2;have ap:=hk.val;subst ap;have hm:P.underlying t=some (.map k e0):=by have:=(hT.of (t:=t) (by rw[Y];simp[TK.sG])).kind;rwa [Y] at this
 obtain⟨b,c,arr,H,h1,h2,⟨h3,a7⟩,h4⟩:=ai;have aq:vx=.map (some b):=by
  cases hx with|mp _ b' c' af ax ay=>
  rw[h1] at af;simp only[X24,X26] at af;rw[af.1]
 subst aq;have hu:U.oneCell'=true:=by have:=ab _ c0;cases U<;>first|rfl|(cases d<;>simp[IsKey] at this)
 have ar:r<obl.length:=Dz obl r _ ho;obtain⟨q,hq⟩:=QE Z;have ae :∀M o',(M,o')∈wr++[(r,J)]->M<obl.length:=by
  intro M o' V;rcases X23.1 V with V|V
  ·obtain⟨e',az,b0,f',q1,_⟩:=ao M o' V;exact Dz obl M _ q1
  simp only[X14,X26] at V;rw[V.1];exact ar
 have aj:tz (some J)=none/\∀cs,J≠.box cs:=by
  rcases a1 with rfl|⟨M,n,rfl,_⟩
  ·exact⟨rfl,λcs h=>by simp at h⟩
  exact⟨rfl,λcs h=>by simp at h⟩
 have fin :∀(K:Array Xbn) (F:Nat),sC K F->(∀{S2:Sc} {w2:B},Q9 S' w S2 w2->rM S2 w2 zs K.toList)->(∀{Q:A->Prop},Q vv->sY U Q K.toList)->
   s6 E w S φ (λr=>obl.getD r none) .dead (wr++[(r,J)]) Xc3 { w with heap:=w.heap.setIfInBounds b (.map K F) }:=by
  intro K F ak he au;obtain⟨s1,s2⟩:=heap_set (w:=w) (o':=.map K F) h2;obtain⟨m2,k2⟩:=m'.set r o J { w with heap:=w.heap.setIfInBounds b (.map K F) } (φ r) ah (λi hi hn=>s2 i λe=>hn c (by rw[e];exact h1)) (by simp) ⟨rfl,rfl,rfl,Xa8 _⟩
   (λb' c' o hb hS=>by rw[h1] at hb;simp only[X24,X26] at hb;rw[<- hb.1] at hS;exact absurd hS (h3 o)) (.inl rfl)
   (.inl ⟨gL _ _ _,by rw[gL,ah,hh];exact aj.1,λ⟨cs,hc⟩=>by rw[gL] at hc;exact absurd (X25 hc) (aj.2 cs)⟩) (λM a8=>by
    rcases a1 with rfl|⟨r2,n,rfl,hn,_⟩
    ·simp[OB.refs] at a8
    ·simp only[OB.refs,X14] at a8;rw[a8];exact hn) (λal=>by
    obtain⟨g1,g2⟩:=he al.k;rcases a1 with rfl|⟨r2,n,rfl,hn,an⟩
    ·exact⟨b,c,K,F,by rw[gL];exact h1,s1,⟨by simpa using g1,ak⟩,h3,λi hi=>by simpa using g2 i hi⟩
    exact⟨b,c,K,F,by rw[gL];exact h1,s1,⟨by simpa using g1,ak⟩,h3,λi hi=>by simpa using g2 i hi,au (al.tZ (λq hq=>by
     simp only[AV.refs,X14] at hq
     rw[hq];exact hn) an)⟩)
  exact⟨S',_,by rw[AU];exact m2,by rw[AU];exact k'.trans k2,.dead _,λM a8=>by simp[AV.refs] at a8⟩
 rcases M5 (S:=S') (w:=w) (tk:=(T.get k).kind) (d:=d) (u:=U) (λu' b=>a6 U u' b) es arr.toList 0 q h4 hq with ⟨g1,g2,g3⟩|⟨j,y,v',_,g2,g3,g4,_,g6,g7⟩
 ·rw[g3 dv] at Z;obtain rfl:=X25 Z;refine⟨_,ae,?_,fin (arr.push { key:=U,val:=vv,born:=H }) (H+1) (a7.push _ _) (λaa=>?_) λhQ=>?_⟩
  ·unfold Instr.mapUpdate;simp[Xa5 hm,Xcl h2,run_checkKey hd (ab _ c0),run_findKey hd g2,run_setObj_map _ h2,Result.andThen]
  ·rw[Array.toList_push];exact (h4.mono aa).push hu rfl (ag.mono aa)
  rw[Array.toList_push];exact (NP (λu' b=>a6 U u' b) rfl hQ (f:=λe=>{ e with key:=U,val:=vv }) (λ_=>⟨rfl,hQ⟩) es arr.toList 0 _ h4 hq).1 g1
 rw[g7 dv] at Z;obtain rfl:=X25 Z;have hj:arr[j]?=some y:=by simpa using g2
 refine⟨_,ae,?_,fin (arr.modify j λe=>{ e with key:=U,val:=vv }) H (a7.modify _ _ λ_=>rfl) (λaa=>?_) λhQ=>?_⟩
 ·unfold Instr.mapUpdate;simp[Xa5 hm,Xcl h2,run_checkKey hd (ab _ c0),run_findKey hd g6,hj,g3,run_keyThatStays (ab _ c0),run_setObj_map _ h2,Result.andThen]
 ·rw[Array.toList_modify];exact (h4.mono aa).set g4 hu (λ_=>rfl) λ_=>ag.mono aa
 rw[Array.toList_modify];exact (NP (λu' b=>a6 U u' b) (y:={ key:=U,val:=vv,born:=H }) rfl hQ (f:=λe=>{ e with key:=U,val:=vv }) (λ_=>⟨rfl,hQ⟩) es arr.toList 0 _ h4 hq).2 j _ g6
def Ky {obl:O (C OB)}(hT:rc P T)(m:Mem E w S φ (λr=>obl.getD r none)){t:Nat}{x key v:AV}{vx vk vv:A}{K:AV->W->Prop} (hx:gM S w φ (λr=>obl.getD r none) x vx) (hk:gM S w φ (λr=>obl.getD r none) key vk) (hv:gM S w φ (λr=>obl.getD r none) v vv) (h:KW T t x key v obl K) : ∃out wr w',K out wr/\(∀r o,(r,o)∈wr->r<obl.length)/\(Instr.mapUpdate t vx vk vv).run P w=.ok () w'/\s6 E w S φ (λr=>obl.getD r none) out wr Xc3 w':=by
 unfold KW at h;split at h
 ·rename_i k e0 r kv H;simp only[AH,X27] at h;obtain⟨⟨⟨c0,c1⟩,c2⟩,h⟩:=h;obtain⟨dv,wr,S',F,Z,k',U,a1,V⟩:=D8 m (rl.refl _) hv h;rw[An] at F;obtain⟨Y,o,ho,F⟩:=F;have J:Ag (λr=>obl.getD r none) wr r=some o:=by
   rw[EG wr _ r λq hq e=>by
    simp only[Wo] at Y;have:=Y q hq;rw[e] at this
    simp[Xd4] at this]
   exact ho
  cases o with
  | box=>simp at F
  | row=>simp at F
  | gone=>simp at F
  | map k1 e1 es=>obtain⟨zs,M,F⟩:=F;obtain⟨w',g1,g2,g3⟩:=H2 (P:=P) hT H c0 c1 c2 hx hk Z k' U V ho J rfl M (QA (Z.obj r _ J)) (.inl rfl);exact⟨_,_,w',F,g1,g2,g3⟩
  | rK k1 e1 es a6 r' n=>obtain⟨zs,M,F⟩:=F;obtain⟨b,c,arr,Q,q1,q2,q3,q4,_⟩:=NL (Z.obj r _ J);obtain⟨w',g1,g2,g3⟩:=H2 (P:=P) hT H c0 c1 c2 hx hk Z k' U V ho J rfl M ⟨b,c,arr,Q,q1,q2,q3,q4⟩ (.inl rfl);exact⟨_,_,w',F,g1,g2,g3⟩
 exact h.elim
def Rq {obl:O (C OB)}(hT:rc P T)(m:Mem E w S φ (λr=>obl.getD r none)){t r0 n0:Nat}{x key:AV}{vx vk vv:A}{K:AV->W->Prop} (hx:gM S w φ (λr=>obl.getD r none) x vx) (hk:gM S w φ (λr=>obl.getD r none) key vk) (hv:gM S w φ (λr=>obl.getD r none) (.own r0 n0) vv) (U:gO (λr=>obl.getD r none) (.own r0 n0)) (h:ND T t x key r0 n0 obl K) : ∃out wr w',K out wr/\(∀r o,(r,o)∈wr->r<obl.length)/\(Instr.mapUpdate t vx vk vv).run P w=.ok () w'/\s6 E w S φ (λr=>obl.getD r none) out wr Xc3 w':=by
 unfold ND at h;split at h
 ·rename_i k e0 r kv H;simp only[AH,X27] at h;obtain⟨⟨⟨c0,c1⟩,c2⟩,h⟩:=h;obtain⟨dv,wr,S',F,m',k',V,a6,Y⟩:=D8 m (rl.refl _) hv h;rw[An] at F;obtain⟨Z,o,ho,F⟩:=F;have J:Ag (λr=>obl.getD r none) wr r=some o:=by
   rw[EG wr _ r λq hq e=>by
    simp only[Wo] at Z;have:=Z q hq;rw[e] at this
    simp[Xd4] at this]
   exact ho
  have hn:Ag (λr=>obl.getD r none) wr r0≠none:=k'.closed U r0 (by simp[AV.refs]);have a1:=k'.tZ U hv;cases o with
  | box=>simp at F
  | row=>simp at F
  | gone=>simp at F
  | map k1 e1 es=>obtain⟨zs,M,F⟩:=F;obtain⟨w',g1,g2,g3⟩:=H2 (P:=P) hT H c0 c1 c2 hx hk m' k' V Y ho J rfl M (QA (m'.obj r _ J)) (.inr ⟨r0,n0,rfl,hn,a1⟩);exact⟨_,_,w',F,g1,g2,g3⟩
  | rK k1 e1 es a7 r' n=>obtain⟨zs,M,F⟩:=F;obtain⟨b,c,arr,Q,q1,q2,q3,q4,_⟩:=NL (m'.obj r _ J);obtain⟨w',g1,g2,g3⟩:=H2 (P:=P) hT H c0 c1 c2 hx hk m' k' V Y ho J rfl M ⟨b,c,arr,Q,q1,q2,q3,q4⟩ (.inr ⟨r0,n0,rfl,hn,a1⟩);exact⟨_,_,w',F,g1,g2,g3⟩
 exact h.elim
def K3 {obl:O (C OB)}(F:rc P T)(m:Mem E w S φ (λr=>obl.getD r none)){t:Nat}{x key v:AV}{U V Y:A}{K:AV->W->Prop} (H:gM S w φ (λr=>obl.getD r none) x U) (J:gM S w φ (λr=>obl.getD r none) key V) (M:gM S w φ (λr=>obl.getD r none) v Y) (Q:gO (λr=>obl.getD r none) v) (h:MA T t x key v obl K) : ∃out wr w',K out wr/\(∀r o,(r,o)∈wr->r<obl.length)/\(Instr.mapUpdate t U V Y).run P w=.ok () w'/\s6 E w S φ (λr=>obl.getD r none) out wr Xc3 w':=by
 unfold MA at h;split at h
 ·rcases h with h|h
  ·exact Ky F m H J M h
  exact Rq F m H J M Q h
 exact Ky F m H J M h
def RU {obl:O (C OB)}(m:Mem E w S φ (λr=>obl.getD r none)){t self k e:Nat}(H:obl.getD self none=none) : ∃w',(Instr.makeMap t none).run P w=.ok (.map (some w.heap.size)) w'/\s6 E w S φ (λr=>obl.getD r none) (.mp self) [(self,.map k e [])] (.map (some w.heap.size)) w':=by refine⟨w.alloc (.map #[] 0),rfl,?_⟩;obtain⟨K,M⟩:=m.vl self (0,0) (.map k e []) (.map #[] 0) H (λr F=>by simp[OB.refs] at F) (λQ=>⟨w.heap.size,(0,0),#[],0,gL _ _ _,(heap_alloc w _).1,⟨rfl,.empty _⟩,λo U=>absurd (m.bS _ _ U) (Nat.lt_irrefl _),λi V=>by simp at V⟩);refine⟨S,_,K,M,.mp self w.heap.size (0,0) (gL _ _ _) (λe sz Z Y J=>by simp[Ag] at J) (λcs J=>by simp[Ag] at J),λr F=>?_⟩;simp only[AV.refs,X14] at F;subst F;simp[Ag]
def Mem.wF (m:Mem E w S φ ob){r e sz b:Nat}{c:Rp}{es es':O D}{e0:Nat}{K cur':Array A}{w':B}(M:ob r=some (.row e sz es .no))(F:φ r=some (b,c))(hc:w.heap[b]?=some (.cells K e0 (0,0))) (hl:es'.length=es.length) (h1 :∀i (H:i<es'.length),es'[i].cells.length=sz) (h2 :∀i (H:i<es'.length) j (Q:j<es'[i].cells.length),es'[i].cells[j].isAgg=false) (U:w'.heap[b]?=some (.cells cur' e0 (0,0))) (s7:cur'.size=K.size) (hw :∀k,k<w.heap.size->k≠b->w'.heap[k]?=w.heap[k]?) (hs:w.heap.size<=w'.heap.size) (V:w'.os=w.os/\w'.output=w.output/\w'.tape=w.tape/\w.drawn<=w'.drawn) (f:Nat->Nat->A) (hf :∀i j,i<es'.length->j<sz->cur'[c.2+(i*sz+j)]?=some (f i j)) (hr :∀i (H:i<es'.length) j (Q:j<es'[i].cells.length),rH S w es'[i].cells[j] (f i j)) : Mem E w' S φ (rJ ob r (some (.row e sz es' .no)))/\Kept w S φ ob w' S φ (rJ ob r (some (.row e sz es' .no))):=by
 obtain⟨g0,g1,g2,g3⟩:=m.obj r _ M;rcases g3 with ⟨J,_⟩|⟨b',a7,vs,g,J,Y,f3,f4,f5,f6,f7,f8⟩
 ·rw[F] at J;simp at J
 rw[F] at J;simp only[X24,X26] at J;obtain⟨rfl,rfl⟩:=J;rw[hc] at Y;simp only[X24,Obj.cells.injEq] at Y;obtain⟨rfl,rfl,_⟩:=Y;have:=m.set r _ (.row e0 sz es' .no) w' (φ r) M (λk Z a1=>hw k Z λhe=>a1 c (by rw[he];exact F)) hs V
  (λb2 c2 o hb hS=>by rw[F] at hb;simp only[X24,X26] at hb;rw[<- hb.1] at hS;exact absurd hS (f8.1 o (by simp))) (.inl rfl)
  (.inl ⟨gL _ _ _,by simp[M,tz,hl],λh=>by simp at h⟩) (λr' a6=>by simp[OB.refs] at a6) (λZ=>⟨g0,h1,h2,.inr ⟨b,c,cur',f,by rw[gL];exact F,U,by omega,f4,by rw[s7];exact f5,hf,λi H j Q=>(hr i H j Q).mono Z.k,λo _=>f8.1 o (by simp),λ_ _ _ _ h=>nomatch h⟩⟩)
 have hu:rJ φ r (φ r)=φ:=by funext i;by_cases H:i=r<;>simp[rJ,H]
 rwa [hu] at this
def K8 (z:Array A)(n i j:Nat)(H:i<n)(F:j<z.size):(Xaf z n)[i*z.size+j]?=z[j]?:=by
 have J:(i+1)*z.size<=n*z.size:=X31 _ H;rw[X32] at J;have K:(i*z.size+j)%z.size=j:=by rw[Xc0,Nat.mul_add_mod,Xbe F]
 have M:i*z.size+j<n*z.size:=by omega
 simp[Xaf,M,K,F]
def UY {obl:O (C OB)}(hT:rc P T)(m:Mem E w S φ (λr=>obl.getD r none)){t ty r a n mm:Nat}{vx:A}{K:AV->W->Prop}(hx:gM S w φ (λr=>obl.getD r none) (.th r a n mm) vx) (h:UL T t r a n mm obl K) :∃out wr w',K out wr/\(∀r o,(r,o)∈wr->r<obl.length)/\(Builtin.clear_ #[t] ty #[vx]).run P w=.ok (.tuple #[]) w'/\s6 E w S φ (λr=>obl.getD r none) out wr (.tuple #[]) w':=by
 unfold UL at h;split at h
 ·rename_i e hk;rw[An] at h;obtain⟨o,ho,h⟩:=h;cases o with
  | box=>simp at h
  | map=>simp at h
  | rK=>simp at h
  | gone=>simp at h
  | row e' sz es bf=>
   simp only[AH,X27] at h;obtain⟨⟨⟨⟨c1,c2⟩,c3⟩,c4⟩,hm,z,hz,zs,a8,hK⟩:=h;obtain rfl:=FZ.tN c3;have s7:sz=(T.get e).size:=X30 c2;obtain⟨g0,g1,g2,g3⟩:=m.obj r _ ho;have ab:0<(T.get e).size:=s7▸g0;obtain⟨J,Z,ae⟩:=TE (P:=P) (w:=w) (S:=S) hT c1 ab c4;rw[hz] at ae;cases hx with|th _ _ _ _ _ k c a0 hv ap h1=>
   obtain⟨q1,q2,_⟩:=(h1 e' sz es .no ho).2 hm;have out :∀{w':B} {S':Sc} {φ':Nat->C (Nat×Rp)} {aq:Nat->C OB},gM S' w' φ' aq (.sH []) (.tuple #[]):=.sH [] #[] (λ_=>Xc3) rfl (λi U=>by simp at U) λi U=>by simp at U
   have af :∀r' o',(r',o') ∈ [(r,OB.row e' sz zs .no)]->r'<obl.length:=λr' o' ag=>by simp only[X14,X26] at ag;rw[ag.1];exact Dz obl _ _ ho
   have hu:=BA hT hk;by_cases a1:n=0
   ·
    have ar:zs=es:=by rw[<- a8,a1];simp
    subst ar;refine⟨_,_,w,hK,af,?_,S,φ,?_,?_,out,λr' aa=>by simp[AV.refs,AV.refs.refsL] at aa⟩
    ·rw[hv,ap,a1];cases a0<;>simp[Builtin.clear_,Xa5 hu]
    all_goals
     have:Ag (λr=>obl.getD r none) [(r,OB.row e' sz zs .no)]=λr=>obl.getD r none:=by
      funext q;simp only[Ag];by_cases hq:q=r
      ·subst hq;rw[gL];exact ho.symm
      rw[AO _ _ _ _ hq]
     rw[this]
    ·exact m
    exact .refl _ _ _ _
   rcases q2 with q2|⟨b,bg,c',q2,q3,_⟩
   ·exact absurd q2 a1
   rcases g3 with ⟨f1,_⟩|⟨b',F,M,f,f1,f2,f3,f4,f5,f6,f7,f8⟩
   ·rw[f1] at q2;simp at q2
   rw[f1] at q2;simp only[X24,X26] at q2;obtain⟨rfl,rfl⟩:=q2;obtain⟨zc,zr⟩:=ae.cells;obtain⟨ie,zz,au,bh,bi,ax,ah,be,_⟩:=(hT.of (Ax c1)).sV;have ai:J=zz:=by
    have:(zeroValue e).run P w=.ok zz w:=by simp[zeroValue,typeInfo,au,ax]
    rw[this] at Z;simp only[Result.ok.injEq] at Z;exact Z.1.symm
   subst ai;have V:J.cells.size=sz:=by rw[ah,s7]
   have ay:z.cells.length=sz:=by omega
   have aj:(a+n)*sz<=F.1*sz:=X31 _ (by omega);rw[X32] at aj;have a6:(Xaf J.cells n).toList.length=n*sz:=by simp[size_zeroCells,V]
   have ak :∀v∈(Xaf J.cells n).toList,v.oneCell'=true:=by
    intro v az;obtain⟨q,hq,rfl⟩:=Wz az;rw[a6] at hq;have b0:0<sz:=g0;have e1:q/sz<n:=Nat.div_lt_of_lt_mul (by rw[Xc0];exact hq);have e2:q%sz<sz:=Nat.mod_lt _ b0;have e3:q/sz*sz+q%sz=q:=Nat.div_add_mod' q sz;have:=K8 J.cells n (q/sz) (q%sz) e1 (by omega);rw[V,e3] at this;obtain⟨u,p1,p2,p3⟩:=zr (q%sz) (by omega);rw[p1] at this;have ba:q<(Xaf J.cells n).size:=by simpa using (by omega:q<(Xaf J.cells n).toList.length)
    rw[Array.getElem?_eq_getElem ba] at this;simp only[Array.getElem_toList];rw[X25 this];exact p3.one p2
   have al:=run_storeCells_at P b' (F.2+a*sz) e' (Xaf J.cells n).toList 0 M w f2 (by rw[a6];omega) ak;have a7:F.2+a*sz+(Xaf J.cells n).toList.length<=M.toList.length:=by rw[a6];simp;omega
   have bb:(M.toList.take (F.2+a*sz+0)++(Xaf J.cells n).toList++M.toList.drop (F.2+a*sz+0+(Xaf J.cells n).toList.length))=BG M.toList (F.2+a*sz) (Xaf J.cells n).toList:=rfl;rw[bb] at al;obtain⟨s1,s2,s3⟩:=IC w b' (BG M.toList (F.2+a*sz) (Xaf J.cells n).toList).toArray;have hh:=setRow_heap w b' M (BG M.toList (F.2+a*sz) (Xaf J.cells n).toList).toArray e' (0,0) f2;have an:zs.length=es.length:=by rw[<- a8];simp;omega
   have Y :∀i (U:i<zs.length),zs[i]=if h:a<=i/\i<a+n then z else es[i]'(by omega):=by
    intro i U;subst a8;by_cases h1:i<a
    ·rw[dif_neg (by omega),Xa2 (by simp;omega),Xa2 (by simp;omega)];simp
    by_cases h2:i<a+n
    ·rw[dif_pos ⟨by omega,h2⟩,Xa2 (by simp;omega),Xb1 (by simp;omega)];simp
    rw[dif_neg (by omega),Xb1 (by simp;omega)];simp only[Xbh];congr 1;simp;omega
   have ao :∀i j,i<zs.length->j<sz->(BG M.toList (F.2+a*sz) (Xaf J.cells n).toList).toArray[F.2+(i*sz+j)]?=some (if a<=i/\i<a+n then J.cells.getD j Xc3 else f i j):=by
    intro i j U Q;have:=EA M.toList (F.2+a*sz) (Xaf J.cells n).toList a7 (F.2+(i*sz+j));rw[a6] at this;simp only[List.getElem?_toArray,this];by_cases H:a<=i/\i<a+n
    ·have k1:a*sz<=i*sz:=X31 _ H.1;have k2:(i+1)*sz<=(a+n)*sz:=X31 _ H.2;rw[X32,X32] at k2;rw[Xy ⟨by omega,by omega⟩,Xy H];have e3:F.2+(i*sz+j)-(F.2+a*sz)=(i-a)*sz+j:=by rw[Nat.sub_mul];omega
     rw[e3];have:=K8 J.cells n (i-a) j (by omega) (by omega);rw[V] at this;have bc:j<J.cells.size:=by omega
     simpa[bc] using this
    rw[Xj H,Xj]
    ·simpa using f6 i j (by omega) Q
    rintro⟨k1,k2⟩;rcases Nat.lt_or_ge i a with h|h
    ·have:(i+1)*sz<=a*sz:=X31 _ h;rw[X32] at this;omega
    have:(a+n)*sz<=i*sz:=X31 _ (by omega);rw[X32] at this;omega
   obtain⟨m1,k1⟩:=m.wF (es':=zs) ho f1 f2 an (λi U=>by
     rw[Y i U];split
     ·exact ay
     ·exact g1 _ _) (λi U j Q=>by
     have:=Y i U;simp only[this] at Q⊢;split
     ·rename_i H;rw[dif_pos H] at Q;obtain⟨u,_,p2,_⟩:=zr j Q;exact p2
     ·rename_i H;rw[dif_neg H] at Q;exact g2 _ _ j Q) hh (by simp only[Xbo];rw[BN _ _ _ a7];simp) (λk _ hk=>s1 k hk) (by omega) s3 _ ao (λi U j Q=>by
     have:=Y i U;simp only[this] at Q⊢;split
     ·rename_i H;rw[dif_pos H] at Q;obtain⟨u,p1,_,p3⟩:=zr j Q;have:J.cells.getD j Xc3=u:=by
       have bd:j<J.cells.size:=by omega
       simp[bd] at p1⊢;exact p1
      rw[this];exact p3
     rename_i H;rw[dif_neg H] at Q
     exact f7 _ _ j Q)
   refine⟨_,_,_,hK,af,?_,S,φ,m1,k1,out,λr' aa=>by simp[AV.refs,AV.refs.refsL] at aa⟩;rw[q3];have bj:n≠0:=a1;obtain⟨n',rfl⟩ :∃n',n=n'+1:=⟨n-1,by omega⟩;simp[Builtin.clear_,Xa5 hu,Z,al]
 exact h.elim
def Um {obl:O (C OB)}(J:rc P T)(m:Mem E w S φ (λr=>obl.getD r none)){t u ty:Nat}{x y:AV}{F H:A}{K:AV->W->Prop}(M:gM S w φ (λr=>obl.getD r none) x F)(Q:gM S w φ (λr=>obl.getD r none) y H)(h:e7 T t x y obl K) :∃out wr v w',K out wr/\(∀r o,(r,o)∈wr->r<obl.length)/\(Builtin.copy_ #[t,u] ty #[F,H]).run P w=.ok v w'/\s6 E w S φ (λr=>obl.getD r none) out wr v w':=False.elim h
def YH (H:rc P T){t ty:Nat}{x:AV}{F:A}{K:AV->Prop}(J:gM S w φ ob x F)(h:mP T t x K):FM K ((Builtin.cap_ #[t] ty #[F]).run P w) w:=False.elim h
end
end Go.AX
end
