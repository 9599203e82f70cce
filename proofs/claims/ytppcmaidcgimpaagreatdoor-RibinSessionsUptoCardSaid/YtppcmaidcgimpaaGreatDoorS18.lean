/-
  Texts of one proof, packed.
-/
import Derived.Test.YtppcmaidcgimpaaGreatDoorS14
import Derived.Test.YtppcmaidcgimpaaGreatDoorS15
import Derived.Test.YtppcmaidcgimpaaGreatDoorS17
import Derived.LaidSub
import Derived.MapKept
import Derived.Test.YtppcmaidcgimpaaGreatDoorRows
set_option linter.all false
set_option maxRecDepth 100000
set_option maxHeartbeats 4000000
open List renaming length_map→X6,length_append→X10,length_cons→X11,length_nil→X12,getElem?_eq_some_iff→X15,length_drop→X16,length_take→X17,mem_cons_of_mem→X18,length_replicate→X19,length_set→X20,mem_append→X22
open Option.some renaming injEq→X23,inj→X24
open Prod.mk renaming injEq→X25
open Bool renaming eq_iff_iff→X27
open Option renaming bind→Xg
open List renaming map→Xj
open Go renaming FuncId→Xcs
open Nat renaming beq→Xa0,ble→Xdl
open Go.Proofs.Tryz renaming prog→Xai,underlying3→Xd2
open Go.ByteArray renaming toList_eq→Xdc
open Go.Value renaming cells→Xdj
section
namespace Go.AX.Q25
open Go Go.AX Go.Proofs
def qL:Xcs->I C:=λf=>(match Xa0 f 55 with|true=>[true,false,true]|false=>(match Xa0 f 52 with|true=>[true]|false=>(match Xa0 f 82 with|true=>[true]|false=>(match Xa0 f 242 with|true=>[true]|false=>(match Xa0 f 352 with|true=>[true]|false=>(match Xa0 f 162 with|true=>[true]|false=>(match Xa0 f 83 with|true=>[true]|false=>(match Xa0 f 84 with|true=>[true]|false=>(match Xa0 f 159 with|true=>[true]|false=>(match Xa0 f 80 with|true=>[true]|false=>(match Xa0 f 168 with|true=>[true]|false=>(match Xa0 f 336 with|true=>[true]|false=>(match Xa0 f 354 with|true=>[true]|false=>(match Xa0 f 176 with|true=>[true]|false=>(match Xa0 f 175 with|true=>[true]|false=>(match Xa0 f 289 with|true=>[true]|false=>[]))))))))))))))))
def TR:Xcs->C:=λf=>(match Xa0 f 287 with|true=>true|false=>(match Xa0 f 240 with|true=>true|false=>(match Xa0 f 239 with|true=>true|false=>false)))
def nP:Nat->O (I (D×D)):=λg=>(match Xa0 g 0 with|true=>some (Bh D.i D.i HS)|false=>none)
abbrev Wl (p:Prop):WL:=⟨p,nP⟩
def ok {wl:Prop}{f:Xcs}(fn:Func){args:I AV}{gD:I OB}{J:AV}{H:I OB} (K : Xai.funcs[f]? = some fn) (P : (fn.name == "runtime.NumGoroutine") = false) (h : Xv (tL (Wl wl) Xai tt qL TR 0 gD.length) fn args gD fun r o => r = J ∧ o = H) : A0 (Wl wl) Xai f args gD J H :=
  lA dt (by kernel_rfl) qL TR 0 K P h
def xe {wl:Prop}{f:Xcs}(ex:Nat)(fn:Func){args:I AV}{gD:I OB}{J:AV}{H:I OB} (K : Xai.funcs[f]? = some fn) (P : (fn.name == "runtime.NumGoroutine") = false) (h : Xv (tL (Wl wl) Xai tt qL TR ex gD.length) fn args gD fun r o => r = J ∧ o = H) : A0 (Wl wl) Xai f args gD J H :=
  lA dt (by kernel_rfl) qL TR ex K P h
def inl {wl:Prop}{f:Xcs}(fn:Func)(np:Nat){args:I AV}{ob:I (O OB)}{K:AV->I (O OB)->Prop} (H : Xai.funcs[f]? = some fn) (J : (fn.name == "runtime.NumGoroutine") = false) (h : jD (tL (Wl wl) Xai tt qL TR 0 np) fn args ob K) : XZ (Wl wl) Xai f args ob K :=
  lL dt (by kernel_rfl) qL TR np H J h
class CK {α:Type} (F:Option α) (f:outParam FuncId) (ag:outParam (List AV)) (os:outParam (List OB)) (c:outParam (α->AV)) (o:outParam (α->List OB)):Prop where
  ok :∀{wl:Prop} {v:α},F=some v->A0 (Wl wl) Tryz.prog f ag os (c v) (o v)
section
variable {U:pw} {p:Pl} {α ρ:Type} {F:O α} {f:FuncId} {ag:I AV} {os:I OB} {c:α->AV} {o:α->I OB} {wl:Prop} {k:α->O ρ} {r:ρ} {M:AV->I OB->O (I Nat)->Prop} {M2:AV->I OB->Prop} {L:Nat} {B:Prop}
def Wk.il {fn : Func}{n : Nat}{args : List AV}{ob : List (Option OB)}{K : AV → List (Option OB) → Prop}(k : Wk U p (jD (tL (Wl wl) Tryz.prog tt qL TR 0 n) fn args ob K))(H : Tryz.prog.funcs[f]? = some fn := by kernel_rfl)(J : (fn.name == "runtime.NumGoroutine") = false := by kernel_rfl) : Wk U (.i fn n p) (XZ (Wl wl) Tryz.prog f args ob K) := ⟨inl fn n H J k.h⟩
theorem Wf {F : Option α}(ex : Nat)(fn : Func)(k : ∀ {wl : Prop} {v : α}, F = some v → Xv (tL (Wl wl) Tryz.prog tt qL TR ex os.length) fn ag os fun r x => r = c v ∧ x = o v)(H : Tryz.prog.funcs[f]? = some fn := by kernel_rfl)(J : (fn.name == "runtime.NumGoroutine") = false := by kernel_rfl) : CK F f ag os c o := ⟨fun h => xe ex fn H J (k h)⟩
theorem Wk.cS [i:CK F f ag os c o](h:Xg F k=some r)(n:Q3 (∀v,k v=some r->Wk U p (M (c v) (o v) (some [])))):Wk U p (∃H gD b,A0 (Wl wl) Xai f ag os H gD/\M H gD b):=⟨A7 h (λ_=>i.ok) λv e=>(n v e).h⟩
theorem Wk.cN {l:I Nat}[i:CK F f ag os c o](h:Xg F k=some r)(n:Q3 (∀v,k v=some r->Wk U p (M (c v) (o v) (some l)))):Wk U (.n l p) (∃H gD b,A0 (Wl wl) Xai f ag os H gD/\M H gD b):=⟨UV l h (λ_=>i.ok) λv e=>(n v e).h⟩
theorem Wk.cB [i:CK F f ag os c o](h:Xg F k=some r)(n:Q3 (∀v,k v=some r->Wk U p (M (c v) (o v) none))):Wk U (.m p) (∃H gD b,A0 (Wl wl) Xai f ag os H gD/\M H gD b):=⟨Y9 h (λ_=>i.ok) λv e=>(n v e).h⟩
theorem Wk.cD [i:CK F f ag os c o](h:Xg F k=some r)(n:Q3 (∀v,k v=some r->Wk U p (M2 (c v) (o v))))(e :∀v,(o v).length=L):Wk U p (∃H gD,A0 (Wl wl) Xai f ag os H gD/\(gD.length=L\/B)/\M2 H gD):=⟨DZ h (λ_=>i.ok) e λv e=>(n v e).h⟩
theorem Wk.cE {ob:I (O OB)}{self:Nat}{L:I OB->Prop}[i:CK F f ag os c o](h:Xg F k=some r)(n:Q3 (∀v,k v=some r->Wk U p (M2 (c v) (o v))))(e:ob[self]?=some none):Wk U (.m p) (∃H gD,A0 (Wl wl) Xai f ag os H gD/\(L gD\/ob[self]?=some none)/\M2 H gD):=⟨iO h (λ_=>i.ok) e λv e=>(n v e).h⟩
def Wg {A:Prop}{a:Option ρ}(p:Pl)(h:a=some r) (k:a=some r->Wk ⟨[],[]⟩ p A:=by
 intro h;(try (with_reducible (conv at h=>lhs;whnf)));repeat' (first|((with_reducible refine q3 ?_);first|(refine mV ?_;intro a b c d e x h;(try (with_reducible (conv at h=>lhs;whnf)));try refine Wk.v a (Wk.v b (Wk.v c (Wk.v d (Wk.v e (Wk.v x ?_))))))|(refine lR ?_;intro a b c d e h;(try (with_reducible (conv at h=>lhs;whnf)));try refine Wk.v a (Wk.v b (Wk.v c (Wk.v d (Wk.v e ?_)))))|(refine lN ?_;intro a b c d h;(try (with_reducible (conv at h=>lhs;whnf)));try refine Wk.v a (Wk.v b (Wk.v c (Wk.v d ?_))))|(refine mI ?_;intro a b c h;(try (with_reducible (conv at h=>lhs;whnf)));try refine Wk.v a (Wk.v b (Wk.v c ?_)))|(refine lV ?_;intro a b h;(try (with_reducible (conv at h=>lhs;whnf)));try refine Wk.v a (Wk.v b ?_))|(intro a h;try refine Wk.v a ?_))|((first|with_reducible refine q6 ?_|with_reducible refine q1 ?_);(first|refine mV ?_|refine lR ?_|refine lN ?_|refine mI ?_|refine lV ?_|skip);intros;rename_i h;(try (with_reducible (conv at h=>lhs;whnf)));(conv=>whnf))|((first|with_reducible refine q2 ?_|with_reducible refine q5 ?_);(first|refine mV ?_|refine lR ?_|refine lN ?_|refine mI ?_|refine lV ?_|skip);intros;rename_i h _;(try (with_reducible (conv at h=>lhs;whnf)));(conv=>whnf))|((with_reducible refine q4 ?_);intro _ h)|((with_reducible refine q7 ?_);intro a g h;try refine Wk.v a ?_)|(intro h)|((conv=>arg 2;whnf);(conv=>arg 3;whnf);first|with_reducible refine Wk.y ?_|refine Wk.il ?_|((with_reducible show Wk _ _ (∃_:pw,_));first|exact Wk.xk h|exact Wk.xu h|exact Wk.r6 h|exact Wk.wB h)|((with_reducible show Wk _ _ (sh _ _ _));first|refine Wk.cut h ?_ ?_|with_reducible refine Wk.g ?_|with_reducible refine Wk.go ?_)|((with_reducible show Wk _ _ (∃(_:AV) (_:List OB) (_:Option (List Nat)),_));first|refine Wk.cN h ?_|refine Wk.cB h ?_|((with_reducible refine Wk.s ?_);refine Wk.cS h ?_)|refine Wk.cS h ?_)|((with_reducible show Wk _ _ (∃(_:AV) (_:List OB),_));first|refine Wk.cE h ?_ rfl|((with_reducible refine Wk.s ?_);refine Wk.cD h ?_ (λ_=>rfl))|refine Wk.cD h ?_ (λ_=>rfl))|((with_reducible show Wk _ _ (EV _ _ _=_/\_));refine Wk.cr ?_)|((with_reducible show Wk _ _ (E1 _=_/\_));refine Wk.dr ?_)|((with_reducible show Wk _ _ ((E1 _=_/\_)/\_));refine Wk.tr ?_)|((with_reducible show Wk _ _ (@Eq Nat _ _/\_));refine Wk.len ?_)|((with_reducible show Wk _ _ (@Eq AV _ _/\_));exact Wk.fin h)|((with_reducible show Wk _ _ (_=_/\_));refine Wk.and rfl ?_)|((with_reducible show Wk _ _ (_\/_));first|with_reducible refine Wk.l ?_|with_reducible refine Wk.inr ?_|with_reducible refine Wk.inl ?_)|((with_reducible show Wk _ _ (∃_,@Eq Nat _ _/\_));first|refine Wk.ex (X6 _) ?_|refine Wk.ex rfl ?_)|((with_reducible show Wk _ _ (∃_,@Eq Int (IntKind.wrap IntKind.i64 _) _/\_));first|refine Wk.ex (by assumption) ?_|refine Wk.ex (bN _) ?_|refine Wk.ex (YF _) ?_|refine Wk.ex (YC _) ?_|refine Wk.ex rfl ?_)|((with_reducible show Wk _ _ (∃_,@Eq Int (IntKind.wrap _ _) _/\_));first|refine Wk.ex (QZ _) ?_|refine Wk.ex (N8 _) ?_|refine Wk.ex (iY _) ?_|refine Wk.ex (ez _) ?_)|((with_reducible show Wk _ _ (∃_,List.getD _ _ _=_/\_));first|refine Wk.ex (by assumption) ?_|refine Wk.ex (Kw (by assumption)) ?_|refine Wk.gd (f:=E.e) g ?_|refine Wk.ex rfl ?_)|((with_reducible show Wk _ _ (∃_,List.set _ _ _=_/\_));refine Wk.set h ?_)|((with_reducible show Wk _ _ (∃_,Bl _ _ _=_/\_));first|refine Wk.wK (Hg (ek:=D.i) Ie) ?_|refine Wk.wK (Hg (ek:=D.s) Qc) ?_|refine Wk.wK (Hg (ek:=D.u8) iM) ?_)|((with_reducible show Wk _ _ (∃_,Ek _ _ _ _=_/\_));first|refine Wk.ms Ie ?_ rfl rfl|refine Wk.ms Qc ?_ rfl rfl|refine Wk.ms (es:=([]:List (ByteArray×Bool))) (ek:=D.s) (ev:=D.b) Qc ?_ rfl rfl|refine Wk.ms (es:=([]:List (Int×List UInt8))) (ek:=D.i) (ev:=D.l 1 D.u8) Ie ?_ rfl rfl)|((with_reducible show Wk _ _ (∃_,Option.getD _ _=_/\_));refine Wk.xv h ?_ rfl)|((with_reducible show Wk _ _ (∃_,Option.isSome _=_/\_));first|refine Wk.xn h ?_|refine Wk.ex rfl ?_)|((with_reducible show Wk _ _ (∃_,Int.fdiv _ _=_/\_));first|refine Wk.ex (ej _ _) ?_|refine Wk.ex (Y7 _ _) ?_|refine Wk.ex (ji _ _) ?_|refine Wk.ex (jI _ _) ?_|refine Wk.ex rfl ?_)|((with_reducible show Wk _ _ (∃_,_=_/\_));refine Wk.ex rfl ?_)|((with_reducible show Wk _ _ (sl _ _ _ _));first|refine Wk.for h rfl (by (conv=>whnf);exact wk) ?_ ?_|refine Wk.own h rfl (by (conv=>whnf);exact wk) ?_ ?_|refine Wk.xA h (by (conv=>whnf);exact wk) ?_)|((with_reducible show Wk _ _ ((0<=_/\_<_)/\_));first|refine Wk.get h ?_ (λ_=>rfl)|refine Wk.idx (by assumption) (by assumption) ?_ rfl|refine Wk.get (f:=E.e) h ?_ (λ_=>rfl)|refine Wk.gb h ?_|refine Wk.gb (f:=E.e) h ?_|refine Wk.ib (by assumption) ?_)|((with_reducible show Wk _ _ ((0<=_/\_<=_/\_<=_)/\_));first|refine Wk.par h ?_|refine Wk.wy h ?_|refine Wk.par (f:=E.e) h ?_)|((with_reducible show Wk _ _ (((_+_)*_<=_/\_<=_)/\_));first|refine Wk.wV h ?_|refine Wk.wV (f:=E.e) h ?_)|((with_reducible show Wk _ _ ((_<=_/\_<=_)/\_));first|refine Wk.uT h ?_|refine Wk.uT (f:=E.e) h ?_)|((with_reducible show Wk _ _ (_≠_/\_));first|refine Wk.and (by decide) ?_|refine Wk.rv h ?_)|((with_reducible show Wk _ _ (0<=_/\_));first|refine Wk.and (by decide) ?_|refine Wk.and (Int.natCast_nonneg _) ?_|refine Wk.rv h ?_)|refine Wk.st (by assumption) ?_|refine Wk.se ?_|refine Wk.qZ h ?_ ?_|refine Wk.wD h ?_ ?_|exact Wk.tG h (by assumption) (by (conv=>whnf);exact wk) rfl rfl rfl|exact Wk.wF h (by assumption) (by (conv=>whnf);exact wk)|exact Wk.xo h (by assumption) (by exact wk) rfl rfl rfl|exact Wk.wG h (by assumption) (by exact wk)|with_reducible refine Wk.e0 ?_))):A:=(k h).h
end
instance:E oA:=⟨oA.fv,2⟩
instance:E Addr:=⟨Addr.fv,3⟩
instance:E oF:=⟨oF.fv,2⟩
instance:E ls:=⟨ls.fv,3⟩
instance:E gF:=⟨gF.fv,3⟩
instance:E gE:=⟨gE.fv,1⟩
instance:E kI:=⟨kI.fv,1⟩
instance:E fI:=⟨fI.fv,4⟩
instance:E o3:=⟨o3.fv,1⟩
instance:E fT:=⟨fT.fv,18⟩
instance:E iA:=⟨iA.fv,1⟩
instance:E sB:=⟨sB.fv,1⟩
instance:E rc:=⟨rc.fv,2⟩
instance:E oB:=⟨oB.fv,6⟩
instance:E Set:=⟨Set.fv,3⟩
instance:E qS:=⟨qS.fv,1⟩
instance:E qI:=⟨qI.fv,1⟩
instance:E qC:=⟨qC.fv,1⟩
instance:E qR:=⟨qR.fv,1⟩
instance:E uf:=⟨uf.fv,1⟩
instance:E sj:=⟨sj.fv,2⟩
instance:E px:=⟨px.fv,1⟩
abbrev yb (x:C):AV:=.d (D.b x)
abbrev yi (x:Int):AV:=.d (D.i x)
abbrev yu (x:j):AV:=.d (D.u64 x)
abbrev yv (x:S):AV:=.d (D.u8 x)
abbrev ys (x:T):AV:=.d (D.s x)
def oK {wl:Prop}{f:FuncId}(fn:Func){args:List AV}{gD:List OB}{J:AV}{H:List OB}(h:Xv (tL (Wl wl) Tryz.prog tt qL TR 0 gD.length) fn args gD fun r o=>r=J∧o=H)(K:Tryz.prog.funcs[f]?=some fn:=by kernel_rfl)(P:(fn.name == "runtime.NumGoroutine")=false:=by kernel_rfl):A0 (Wl wl) Tryz.prog f args gD J H:=ok fn K P h
def oKx {wl:Prop}{f:FuncId}(ex:Nat)(fn:Func){args:List AV}{gD:List OB}{J:AV}{H:List OB}(h:Xv (tL (Wl wl) Tryz.prog tt qL TR ex gD.length) fn args gD fun r o=>r=J∧o=H)(K:Tryz.prog.funcs[f]?=some fn:=by kernel_rfl)(P:(fn.name == "runtime.NumGoroutine")=false:=by kernel_rfl):A0 (Wl wl) Tryz.prog f args gD J H:=xe ex fn K P h
def cO {H:Array Oper}{e:List (List Nat×List Nat)}{K:Prop}(k:K)(h:rJ H e=true:=by kernel_rfl):EV H 0 e=true/\K:=xc h k
def dO {H:Array Oper}{K:Prop}(k:K)(h:rU H=true:=by kernel_rfl):E1 H=true/\K:=xb h k
abbrev yr (a b:Nat):AV:=.ref a b
abbrev yO {α:Type}(r:Nat)(f:α->D)(l:I α):AV:=.own r (Xj f l).length
abbrev yR {α:Type}(e s:Nat)(f:α->D)(l:I α):O OB:=some (OB.row e s (Xj f l) .no)
abbrev yB (l:I AV):O OB:=some (OB.box l)
abbrev y0 (l:I Addr):AV:=.d (D.l 3 Addr.fv l)
abbrev y1 (l:I fT):AV:=.d (D.l 18 fT.fv l)
abbrev y2 (l:I Int):AV:=.d (D.l 1 D.i l)
abbrev y3 (l:I oA):AV:=.d (D.l 2 oA.fv l)
abbrev y4 (l:I oF):AV:=.d (D.l 2 oF.fv l)
abbrev y5 (l:I ls):AV:=.d (D.l 3 ls.fv l)
abbrev y6 (l:I gF):AV:=.d (D.l 3 gF.fv l)
abbrev y7 (l:I T):AV:=.d (D.l 1 D.s l)
abbrev y8 (l:I fI):AV:=.d (D.l 4 fI.fv l)
abbrev y9 (l:I rc):AV:=.d (D.l 2 rc.fv l)
abbrev tI (l:I oB):AV:=.d (D.l 6 oB.fv l)
abbrev wo (l:I sj):AV:=.d (D.l 2 sj.fv l)
abbrev vu (l:I S):AV:=.d (D.l 1 D.u8 l)
abbrev uZ (H:Int):O OB:=yB [yi H]
abbrev wN (H:I fT)(J:Int)(K:T)(P:Int)(Q:Int)(V:C)(Y:Int)(Z:I Addr):O OB:=yB [AV.d (D.i J),AV.d (D.s K),AV.d (D.i P),AV.d (D.i Q),AV.d (D.l 3 Addr.fv Z),AV.d (D.b V),yO 38 fT.fv H,AV.d (D.i Y)]
abbrev w9 (H:I fT)(J:Int)(K:T)(P:Int)(Q:Int)(V:C)(Y:Int)(Z:I Addr):O OB:=yB [AV.d (D.i J),AV.d (D.s K),AV.d (D.i P),AV.d (D.i Q),AV.d (D.l 3 Addr.fv Z),AV.d (D.b V),yO 39 fT.fv H,AV.d (D.i Y)]
abbrev wX (H:I gF):O OB:=yB [yO 168 gF.fv H]
abbrev uH (H:I gF)(J:qC)(K:gE):I (O OB):=N::yB (qC.av J)::some (OB.row 96 3 (Xj gF.fv []) .no)::nn 53 (yB (gE.av K)::N::N::wX H::nn 108 (yR 96 3 gF.fv H::nn 17 ([])))
abbrev vZ (J:I fT)(K:Int)(P:T)(Q:Int)(V:Int)(Y:C)(Z:Int)(a7:I Addr)(a8:qI)(a9:iA)(H:qC):I (O OB):=N::N::N::yB (qI.av a8)::yB (iA.av a9)::yB (qC.av H)::yB iA.zv::N::wN J K P Q V Y Z a7::nn 29 (yR 71 18 fT.fv J::nn 72 ([]))
abbrev uP :I AV:=X::yr 1 0::X::X::AV.own 4 (Xj gF.fv []).length::AV.mp 24::dd 189 ([])
abbrev wj (H:Int)(J:Int)(K:Int)(P:Int)(Q:Int)(V:I iA):I AV:=X::X::yi H::yi J::yi K::dd 6 (yr 30 0::yr 12 0::yr 13 0::dd 24 (yO 38 iA.fv V::yi P::yi Q::dd 111 ([])))
abbrev wJ (H:I iA)(J:qI)(K:iA)(P:px):I (O OB):=nn 12 (yB (qI.av J)::yB (iA.av K)::nn 16 (yB (px.av P)::nn 7 (yR 27 8 iA.fv H::nn 113 ([]))))
abbrev ve (H:gE)(J:gE):I (O OB):=N::N::yB (gE.av H)::yB (gE.av J)::nn 198 ([])
abbrev wO (H:Int)(J:Int)(K:I fI):I AV:=X::X::X::yr 3 0::yr 4 0::yr 5 0::yr 6 0::X::yr 8 0::dd 54 (AV.d (D.l 4 fI.fv K)::yi H::yi J::dd 45 ([]))
abbrev nX (H:Int)(J:Int)(K:I fI):I AV:=X::X::X::yr 3 0::yr 4 0::yr 5 0::yr 6 0::X::yr 8 0::dd 45 (AV.d (D.l 4 fI.fv K)::yi H::yi J::dd 80 ([]))
abbrev my (H:Int)(J:Int)(K:I fI):I AV:=X::X::X::yr 3 0::yr 4 0::yr 5 0::yr 6 0::X::yr 8 0::dd 31 (AV.d (D.l 4 fI.fv K)::yi H::yi J::dd 68 ([]))
abbrev cZ (H:I fI):I (O OB):=yR 67 4 fI.fv H::nn 61 ([])
abbrev yC (wl:Prop):=A0 (Wl wl) Xai
end Go.AX.Q25
end
section
namespace Go.AX.Q25
open Go Go.AX Go.Proofs Go.Proofs.YtppcmaidcgimpaaGreatDoor
def xg {H:Type}:Lit×DataW H->D×D
 | (.int k n,.lit (.int F m))=>(.val (.int k n),.val (.int F m))
 | _=>(D.i 0,D.i 0)
def uu {W:B}{p:Prop}(h:laidMetH Xai Rows.ribinAppliesRow.laid W) :∃gb:Nat->Prop,(Wl p).gf gb W/\∀b,gb b->b<W.heap.size:=by
 have J := laidMetH.filter (fun x => x.1 == "exchangepoint/attribute.flags") h;have e2 : (Rows.ribinAppliesRow.laid.filter fun x => x.1 == "exchangepoint/attribute.flags") = [("exchangepoint/attribute.flags", Rows.laid_exchangepoint_attribute_flags)] := by kernel_rfl
 rw[e2] at J;obtain⟨H,_⟩:=laidMetH_iff.1 J;have e1 : (([("exchangepoint/attribute.flags", Rows.laid_exchangepoint_attribute_flags)] : I (String × DataW Unit)).filter fun x => x.2.handleName?.isNone) = [("exchangepoint/attribute.flags", Rows.laid_exchangepoint_attribute_flags)] := by kernel_rfl
 rw[e1] at H;obtain⟨ps,⟨g0,t0,a6,f0,p0,q0,K,Q,U,V,_⟩,_,_⟩:=H;obtain rfl := X24 ((show Xai.globalNamed "exchangepoint/attribute.flags" = some 0 by kernel_rfl).symm.trans K);obtain rfl:=X24 ((show (Xai.globals[0]?).map (·.type)=some 283 by kernel_rfl).symm.trans Q)
 obtain⟨b0,a0,c0,Y,M,Z,a1⟩:=fM (kd:=.i64) Tryz.underlying283 Xd2 V xg (λn v d m q hm F hf=>by
  obtain⟨j,H,J,_⟩:=DataW.trod_int Xd2 F;simp only[X25] at J;obtain⟨rfl,_⟩:=J;have F:v=.int .i64 j:=by unfold Value.formed at hf;rw[Xd2] at hf;cases v<;>simp_all [Xdj]
  subst F
  exact⟨rfl,rfl⟩)
 have P :∀{g:Nat} {n:String} {cs:Array A} {v:A},Xai.globalNamed n=some g->W.var? Xai n=some cs->cs.toList=[v]->cellAt W g 0=some v/\g<W.heap.size:=by
  intro g n cs v hg F hc;have H:=World.var?_cell hg F 0;rw[Array.eq_one_of_toList hc] at H;have H:W.cell? ⟨g,0,none⟩=some v:=by simpa using H
  refine⟨H,?_⟩;unfold World.var? at F;rw[hg,Xbx] at F;cases hh:W.heap[g]? with
  | none=>rw[hh] at F;cases F
  | some o=>exact (Xbo.1 hh).1
 obtain⟨k0,s0⟩:=P K U Y;refine⟨λb=>b=0\/b=b0,λg es hg=>?_,λb hb=>?_⟩;rotate_left
 ·rcases hb with rfl|rfl
  ·exact s0
  exact (Xbo.1 M).1
 match g,hg with
 | 0,hg=>obtain rfl:Bh D.i D.i HS=es:=X24 hg;refine⟨.inl rfl,b0,a0,c0,_,.inr rfl,k0,M,λtk x q hq=>?_,cV a1⟩;refine V0 (l:=Bh D.i D.i HS) (Z.symm) ?_ (by unfold HS Bh;simp[D.i]) hq;intro q hq;obtain⟨z,_,rfl⟩:=Xaz.1 hq;exact⟨_,rfl⟩
 | g+1,hg=>cases hg
end Go.AX.Q25
end
section
namespace Go.AX
class Tt {ρ:Type} (m:Option ρ):Prop where
 h :∃r,m=some r
def Ok {ρ:Type}(m:O ρ)(Q:ρ->Prop):Prop:=∃r,m=some r/\Q r
def Ok.ret {ρ:Type}{Q:ρ->Prop}{r:ρ}(h:Q r):Ok (some r) Q:=⟨r,rfl,h⟩
theorem Ok.of {ρ:Type}{m:O ρ}[t:Tt m]:Ok m λr=>m=some r:=by obtain⟨r,h⟩:=t.h;exact⟨r,h,h⟩
def Ok.imp {ρ:Type}{m:O ρ}{P Q:ρ->Prop}(h:Ok m P)(k :∀r,P r->Q r):Ok m Q:=by obtain⟨r,F,H⟩:=h;exact⟨r,F,k r H⟩
theorem Ok.tt {ρ:Type}{m:O ρ}{Q:ρ->Prop}(h:Ok m Q):Tt m:=by obtain⟨r,F,_⟩:=h;exact⟨r,F⟩
def Ok.bind {α ρ:Type}{m:O α}{f:α->O ρ}{P:α->Prop}{Q:ρ->Prop}(h:Ok m P)(k :∀a,P a->Ok (f a) Q):Ok (Xg m f) Q:=by obtain⟨a,F,H⟩:=h;rw[F];exact k a H
def Ok.join {τ ρ:Type}{m:(τ->O ρ)->O ρ}{k:τ->O ρ}{Q:ρ->Prop}(J:τ->Prop)(H :∀F,(∀v,J v->Ok (F v) Q)->Ok (m F) Q)(K :∀v,J v->Ok (k v) Q):Ok (AB m k) Q:=H k K
def Ok.sQ {α σ ρ:Type}{done:σ->O ρ}{body:(σ->O ρ)->α->Nat->σ->O ρ}{Q:ρ->Prop}{l:List α}{J:σ}(I:Nat->σ->Prop)(M:I 0 J)(P :∀s,I l.length s->Ok (done s) Q) (U :∀(next:σ->O ρ) x i s,l[i]?=some x->I i s->(∀F,I (i+1) F->Ok (next F) Q)->Ok (body next x i s) Q):Ok (AH done body l 0 J) Q:=by
 have key :∀(t:List α) (i:Nat) (s:σ),(∃p,l=p++t/\p.length=i)->I i s->Ok (AH done body t i s) Q:=by
  intro t;induction t with
  | nil=>intro i s ⟨p,hp,H⟩ K;exact P s (by rw[hp];simpa[H] using K)
  | cons x t V=>intro i s ⟨p,hp,H⟩ K;exact U _ x i s (by rw[hp,<- H];simp) K λF Y=>V (i+1) F ⟨p++[x],by simp[hp],by simp[H]⟩ Y
 exact key l 0 J ⟨[],rfl,rfl⟩ M
def Ok.ux {α σ ρ:Type}{done:σ->O ρ}{body:(σ->O ρ)->α->Nat->σ->O ρ}{Q:ρ->Prop}{l:List α}{F:σ}(I:Nat->σ->Prop)(K:I 0 F)(M :∀s,I l.length s->Ok (done s) Q) (P :∀(next:σ->O ρ) x i s,i<l.length->x∈l->I i s->(∀H,I (i+1) H->Ok (next H) Q)->Ok (body next x i s) Q):Ok (AH done body l 0 F) Q:=
 .sQ I K M λn x i s J=>P n x i s (X15.1 J).1 (Xbu J)
def Ok.for_ {α σ ρ:Type}{done:σ->O ρ}{body:(σ->O ρ)->α->Nat->σ->O ρ}{Q:ρ->Prop}{l:I α}{H:σ}(J :∀s,Ok (done s) Q) (K :∀(next:σ->O ρ) x i s,i<l.length->x∈l->(∀F,Ok (next F) Q)->Ok (body next x i s) Q):Ok (AH done body l 0 H) Q:=
 .ux (λ_ _=>True) trivial (λs _=>J s) λn x i s M P _ U=>K n x i s M P λF=>U F trivial
def Ok.rB {σ ρ:Type}{body:(σ->O ρ)->σ->O ρ}{n:Nat}{s:σ}{Q:ρ->Prop}(I:σ->Prop)(F:σ->Nat)(J:I s)(K:F s<n) (M :∀(next:σ->O ρ) s,I s->(∀H,I H->F H<F s->Ok (next H) Q)->Ok (body next s) Q):Ok (A3 body n s) Q:=
 Uf I F Q (λnext s h k=>M next s h k) n s J K
def Ok.ite {ρ:Type}{p:Prop}[Decidable p]{x y:O ρ}{Q:ρ->Prop}(F:p->Ok x Q)(H:¬ p->Ok y Q):Ok (if p then x else y) Q:=by
 split
 ·exact F ‹_›
 exact H ‹_›
def Ok.iB {α:Type}{l:I α}{i:Int}(h:0<=i/\i<l.length):Ok (iB l i) λx=>x∈l/\iB l i=some x:=by
 have F:i.toNat<l.length:=by omega
 have H:Go.AX.iB l i=some l[i.toNat]:=by unfold Go.AX.iB;rw[Xl h];simp[F]
 exact⟨_,H,Wu F,H⟩
def Ok.rk {α:Type}{l:I α}{i:Int}{x:α}(h:0<=i/\i<l.length):Ok (rk l i x) λF=>F=l.set i.toNat x/\F.length=l.length:=by refine⟨_,?_,rfl,by simp⟩;unfold Go.AX.rk;rw[Xl h]
def Ok.gH {α:Type}{b:Nat}{l m:I α}(F:Xdl b 65536=true)(h:l.length+m.length<=1000000000):Ok (gH b l m) λH=>H=l++m:=⟨_,AI F h,rfl⟩
def Ok.part {α:Type}{l:I α}{a b:Int}(h:0<=a/\a<=b/\b<=l.length):Ok (part l a b) λF=>F=(l.drop a.toNat).take (b.toNat-a.toNat)/\(F.length:Int)=b-a:=by refine⟨_,?_,rfl,by simp;omega⟩;unfold Go.AX.part;rw[Xl h]
def Ok.rv {p:Prop}[Decidable p](h:p):Ok (rv p) λ_=>True:=by refine⟨(),?_,trivial⟩;unfold Go.AX.rv;rw[Xl h]
theorem Tt.rp {ρ:Type}{m:Option ρ} (h:Ok m λ_=>True:=by
  repeat' (first
   | exact Ok.ret trivial
   | assumption
   | (refine Ok.bind Ok.of ?_;intros)
   | (refine Ok.ite ?_ ?_<;>intros)
   | (refine Ok.join (λ_=>True) ?_ ?_<;>intros)
   | (refine Ok.for_ ?_ ?_<;>intros)
   | (refine Ok.bind (Ok.iB ?_) ?_<;>intros)
   | (refine Ok.bind (Ok.rv ?_) ?_<;>intros)
   | exact ‹∀v,True->Ok _ _› _ trivial
   | exact ‹∀v,Ok _ _› _
   | solve_by_elim
   | (constructor<;>first|omega|(simp_all;done)|(simp_all;omega))
   | omega
   | decide)):Tt m:=h.tt
def Ok.q {ρ:Type}{m:Option ρ}{Q:ρ->Prop} (h:Ok m Q:=by
  repeat' (first
   | assumption
   | refine Ok.ret ?_
   | exact trivial
   | (refine Ok.bind Ok.of ?_;intros)
   | (refine Ok.ite ?_ ?_<;>intros)
   | (refine Ok.bind (Ok.rv ?_) ?_<;>intros)
   | (refine Ok.bind (Ok.iB ?_) ?_<;>intros)
   | (refine Ok.bind (Ok.rk ?_) ?_<;>intros)
   | (refine Ok.bind (Ok.gH (by decide) ?_) ?_<;>intros)
   | refine ‹∀v,_->_->Ok _ _› _ ?_ ?_
   | refine ‹∀v,_->Ok _ _› _ ?_
   | exact ‹∀v,Ok _ _› _
   | (refine Ok.join (τ:=Bool) (λ_=>True) ?_ ?_<;>intros)
   | (refine Ok.join (τ:=Unit) (λ_=>True) ?_ ?_<;>intros)
   | omega
   | solve_by_elim
   | (simp_all;done)
   | (simp_all;omega)
   | (simp only[X10,X11,X12,X20,decide_eq_true_eq,beq_iff_eq,bne_iff_ne,Bool.not_eq_true'] at *;(try subst_vars);(try simp only[X10,X11,X12]);omega))):Ok m Q:=h
def Po {ρ:Type}(m:O ρ)(Q:ρ->Prop):Prop:=∀r,m=some r->Q r
def Po.ret {ρ:Type}{Q:ρ->Prop}{r:ρ}(h:Q r):Po (some r) Q:=λ_ e=>X24 e▸h
def Po.imp {ρ:Type}{m:O ρ}{P Q:ρ->Prop}(h:Po m P)(k :∀r,P r->Q r):Po m Q:=λr e=>k r (h r e)
def Po.bind {α ρ:Type}{m:O α}{f:α->O ρ}{Q:ρ->Prop}(k :∀a,m=some a->Po (f a) Q):Po (Xg m f) Q:=by
 intro r e;cases hm:m with
 | none=>rw[hm] at e;cases e
 | some a=>rw[hm] at e;exact k a hm r e
def Po.join {τ ρ:Type}{m:(τ->O ρ)->O ρ}{k:τ->O ρ}{Q:ρ->Prop}(J:τ->Prop)(H :∀F,(∀v,J v->Po (F v) Q)->Po (m F) Q)(K :∀v,J v->Po (k v) Q):Po (AB m k) Q:=H k K
def Po.ite {ρ:Type}{p:Prop}[Decidable p]{x y:O ρ}{Q:ρ->Prop}(F:p->Po x Q)(H:¬ p->Po y Q):Po (if p then x else y) Q:=by
 split
 ·exact F ‹_›
 exact H ‹_›
def Po.sQ {α σ ρ:Type}{done:σ->O ρ}{body:(σ->O ρ)->α->Nat->σ->O ρ}{Q:ρ->Prop}{l:List α}{J:σ}(I:Nat->σ->Prop)(M:I 0 J)(P :∀s,I l.length s->Po (done s) Q) (U :∀(next:σ->O ρ) x i s,l[i]?=some x->I i s->(∀F,I (i+1) F->Po (next F) Q)->Po (body next x i s) Q):Po (AH done body l 0 J) Q:=by
 have key :∀(t:List α) (i:Nat) (s:σ),(∃p,l=p++t/\p.length=i)->I i s->Po (AH done body t i s) Q:=by
  intro t;induction t with
  | nil=>intro i s ⟨p,hp,H⟩ K;exact P s (by rw[hp];simpa[H] using K)
  | cons x t V=>intro i s ⟨p,hp,H⟩ K;exact U _ x i s (by rw[hp,<- H];simp) K λF Y=>V (i+1) F ⟨p++[x],by simp[hp],by simp[H]⟩ Y
 exact key l 0 J ⟨[],rfl,rfl⟩ M
def Po.for_ {α σ ρ:Type}{done:σ->O ρ}{body:(σ->O ρ)->α->Nat->σ->O ρ}{Q:ρ->Prop}{l:List α}{F:σ}(I:σ->Prop)(J:I F)(K :∀s,I s->Po (done s) Q) (M :∀(next:σ->O ρ) x i s,x∈l->I s->(∀H,I H->Po (next H) Q)->Po (body next x i s) Q):Po (AH done body l 0 F) Q:=
 .sQ (λ_=>I) J K λn x i s P=>M n x i s (Xbu P)
def Po.gH {α:Type}{b:Nat}{l m:I α}:Po (Go.AX.gH b l m) λr=>r=l++m:=by
 intro r e;unfold Go.AX.gH at e;split at e
 ·exact (X24 e).symm
 cases e
def Po.iB {α:Type}{l:I α}{i:Int}:Po (Go.AX.iB l i) λx=>0<=i/\l[i.toNat]?=some x:=by
 intro r e;unfold Go.AX.iB at e;split at e
 ·rename_i h;exact⟨h.1,e⟩
 cases e
def Po.rk {α:Type}{l:I α}{i:Int}{x:α}:Po (Go.AX.rk l i x) λr=>0<=i/\i.toNat<l.length/\r=l.set i.toNat x:=by
 intro r e;unfold Go.AX.rk at e;split at e
 ·rename_i h;exact⟨h.1,by omega,(X24 e).symm⟩
 cases e
def Po.part {α:Type}{l:I α}{a b:Int}:Po (Go.AX.part l a b) λr=>r=(l.drop a.toNat).take (b.toNat-a.toNat):=by
 intro r e;unfold Go.AX.part at e;split at e
 ·exact (X24 e).symm
 cases e
def Ok.and {ρ:Type}{m:O ρ}{P Q:ρ->Prop}(h:Ok m P)(k:Po m Q):Ok m λr=>P r/\Q r:=by obtain⟨r,F,H⟩:=h;exact⟨r,F,H,k r F⟩
def Po.eq {ρ:Type}{m:O ρ}{r:ρ}{Q:ρ->Prop}(h:m=some r)(k:Q r):Po m Q:=h▸.ret k
def Po.qZ {τ ρ:Type}{m:(τ->O ρ)->O ρ}{k:τ->O ρ}{Q:ρ->Prop}(H :∀F,(∀v,Po (F v) Q)->Po (m F) Q)(J :∀v,Po (k v) Q):Po (AB m k) Q:=H k J
end Go.AX
end
section
namespace Go.AX
def QL {α ρ:Type}{g:α->C}{body:(Unit->O ρ)->α->Nat->Unit->O ρ}{K:Unit->O ρ}{r0:O ρ} : ∀{l:I α} {i:Nat},(∀next x i,x∈l->body next x i ()=cond (g x) (next ()) r0)->AH K body l i ()=cond (l.all g) (K ()) r0
 | [],_,_=>rfl
 | x::t,i,h=>by
  show body (λs=>AH K body t (i+1) s) x i ()=_;rw[h _ x i (by simp),Xc9];cases g x
  ·rfl
  exact QL λnext y j F=>h next y j (X18 _ F)
def nA {α:Type}{f:α->O C}{q:α->C} :∀{l:I α} {i:Nat},(∀x∈l,f x=some (q x))-> AH (λ_=>some (-1)) (λnext x i _=>Xg (f x) λv=>if v then some (i:Int) else next ()) l i ()=some (match l.findIdx? q with|some j=>((i+j:Nat):Int)|none=>-1)
 | [],_,_=>rfl
 | x::t,i,h=>by
  show Xg (f x) (λv=>if v then some (i:Int) else AH (λ_=>some (-1)) _ t (i+1) ())=_;rw[h x (by simp),AA,List.findIdx?_cons];by_cases F:q x=true
  ·rw[Xl F,Xl F];simp
  rw[Xk F,Xk F,nA λy H=>h y (X18 _ H)];cases t.findIdx? q with
  | none=>rfl
  | some j=>simp only[Xbf];rw[show i+1+j=i+(j+1) by omega]
def nH {α:Type}{f:α->O C}{q:α->C}{l:I α}(h :∀x∈l,f x=some (q x)) : (Xg (AB (τ:=Unit) (λH=>AH (λ_=>H ()) (λnext x i _=>Xg (f x) λv=>if v then some (i:Int) else next ()) l 0 ()) λ_=>some (-1)) λJ=>some (decide (J≥0)))=some (l.any q):=by
 rw[AC,nA h,AA];congr 1;cases F:l.findIdx? q with
 | none=>
  have:l.any q=false:=by rw[List.findIdx?_eq_none_iff] at F;simp only[List.any_eq_false];intro x M;simp[F x M]
  rw[this];rfl
 | some j=>have P:=List.findIdx?_eq_some_iff_getElem.1 F;obtain⟨Q,U,_⟩:=P;have:l.any q=true:=List.any_eq_true.2 ⟨_,Wu Q,U⟩;rw[this];simp
def xB {α:Type}[DecidableEq α]{a b:I α}{e:α->α->C}(P :∀x y,e x y=!decide (x=y)) : (if ((a.length:Int) !=(b.length:Int)) then some false else AB (τ:=Unit) (λQ=>AH (λ_=>Q ()) (λnext x i _=>Xg (iB b (i:Int)) λv=>if e v x then some false else next ()) a 0 ()) λ_=>some true)=some (decide (a=b)):=by
 by_cases M:a.length=b.length
 ·rw[Xk (by simp[M]),AC];have key :∀(t:I α) (i:Nat),i+t.length=b.length->AH (λ_=>some true) (λnext x i _=>Xg (iB b (i:Int)) λv=>if e v x then some false else next ()) t i ()=some (decide (t=b.drop i)):=by
   intro t;induction t with
   | nil=>intro i H;simp only[X12,Xcc] at H;rw[H,List.drop_length];rfl
   | cons x t U=>
    intro i H;simp only[X11] at H;have F:i<b.length:=by omega
    show Xg (iB b (i:Int)) (λv=>if e v x then some false else AH (λ_=>some true) _ t (i+1) ())=_;have Y:b.drop i=b[i]::b.drop (i+1):=Xbt F;rw[BS F,AA,U (i+1) (by omega),Y,P];generalize b[i]=y;generalize b.drop (i+1)=u;by_cases J:y=x
    ·subst J;simp
    simp[J,Ne.symm J]
  rw[key a 0 (by omega),List.drop_zero]
 rw[Xl (by simp;omega)];have:¬ a=b:=by rintro rfl;exact M rfl
 rw[Wd this]
def lY (a b:T):(a.toList==b.toList)=decide (a=b):=by
 have h:a.toList=b.toList↔a=b:=by
  rw[Xdc,Xdc];constructor
  ·intro h;have F:a.data=b.data:=Array.toList_inj.1 h;cases a;cases b;simp_all
  rintro rfl;rfl
 rw[X27,Xc0,Xh,h]
def VO {a b:T}(h:(a==b)=true):a=b:=(Go.MapKept.bytes_beq a b).1 h
def lg {a:T}:(a==a)=true:=(Go.MapKept.bytes_beq a a).2 rfl
instance:LawfulBEq T:={ eq_of_beq:=VO,rfl:=lg }
section
variable {K V:Type} [BEq K] [LawfulBEq K]
def rF (l:I (K×V))(k:K)(v:V)(F:K):BA (BJ l k v) F=if F==k then some v else BA l F:=by
 induction l with
 | nil=>unfold BJ;simp only[BA]
 | cons p l H=>
  unfold BJ;by_cases hp:(k==p.1)=true
  ·rw[Xl hp];have:=eq_of_beq hp;simp only[BA];by_cases hk:(F==k)=true
   ·rw[Xl hk,Xl hk]
   rw[Xk hk,Xk hk,Xk (by rw[<- this];exact hk)]
  rw[Xk hp];simp only[BA,H];by_cases hk:(F==k)=true
  ·have:=eq_of_beq hk;subst this;rw[Xk hp,Xl hk,Xl hk]
  rw[Xk hk,Xk hk]
def T9 {l:I (K×V)}{k:K}{v:V}(h:BA l k=some v):(k,v)∈l:=by
 induction l with
 | nil=>simp[BA] at h
 | cons p l F=>
  simp only[BA] at h;split at h
  ·rename_i hp;have:=eq_of_beq hp;simp only[X23] at h;subst h this;simp
  exact X18 _ (F h)
def cL {l:I (K×V)}{k:K}:BA l k=none ↔∀p∈l,p.1≠k:=by
 induction l with
 | nil=>simp[BA]
 | cons p l F=>
  simp only[BA,Xp,forall_eq_or_imp];by_cases hp:(k==p.1)=true
  ·rw[Xl hp];have:=eq_of_beq hp;simp[this]
  rw[Xk hp,F];have:p.1≠k:=λe=>hp (by rw[e];exact Xds k);simp[this]
def Z8 {l:I (K×V)}{k:K}:(∃v,BA l k=some v)↔k∈l.map (·.1):=by
 constructor
 ·rintro⟨v,h⟩;exact Xaz.2 ⟨_,T9 h,rfl⟩
 intro h;obtain⟨p,hp,rfl⟩:=Xaz.1 h;cases hg:BA l p.1 with
 | none=>exact absurd rfl (cL.1 hg p hp)
 | some v=>exact⟨v,rfl⟩
def Ot (l:I (K×V))(k:K)(v:V):(BJ l k v).map (·.1)=if k∈l.map (·.1) then l.map (·.1) else l.map (·.1)++[k]:=by
 induction l with
 | nil=>simp[BJ]
 | cons p l H=>
  unfold BJ;by_cases hp:(k==p.1)=true
  ·rw[Xl hp];have:=eq_of_beq hp;simp[this]
  rw[Xk hp,Xb5,H];have F:¬ k=p.1:=λe=>hp (by rw[e];exact Xds _);simp only[Xb5,Xp,F,false_or];split
  ·rfl
  simp
def Yp {l:I (K×V)}{k:K}{v:V}(h:(l.map (·.1)).Nodup):((BJ l k v).map (·.1)).Nodup:=by
 rw[Ot];split
 ·exact h
 rename_i hk;rw[Xcb];exact⟨h,by simp,λa H b F e=>by simp at F;subst F;subst e;exact hk H⟩
def Qu {l:I (K×V)}{k:K}{v:V}{x:K}:x∈(BJ l k v).map (·.1)↔x∈l.map (·.1)\/x=k:=by
 rw[Ot];split
 ·rename_i hk;constructor
  ·exact .inl
  rintro (h|rfl)
  ·exact h
  exact hk
 simp
end
def Ce {α:Type}(p:α->C)(l:I α):(l.takeWhile p).length<=l.length:=(List.takeWhile_prefix p).length_le
def OX {α:Type}{p:α->C} :∀{l:I α} {k:Nat} (F:k<l.length),k<=(l.takeWhile p).length->(k<(l.takeWhile p).length↔p l[k]=true)
 | [],_,F,_=>by simp at F
 | x::t,k,F,h=>by
  rw[List.takeWhile_cons] at h⊢;by_cases hp:p x=true
  ·rw[Xl hp] at h⊢;cases k with
   | zero=>simp[hp]
   | succ k=>simpa using OX (p:=p) (l:=t) (k:=k) (by simpa using F) (by simpa using h)
  rw[Xk hp] at h⊢;have:k=0:=by simpa using h
  subst this;simp[hp]
def j0 {α ρ:Type}{l:I α}{p:α->C}(g:α->(C->O ρ)->O ρ){K:Int->O ρ}(M:l.length<=1000000000000)(hg :∀x∈l,∀k,g x k=k (p x)) : AB (λH=>A3 (λnext v=>AB (λF=>if decide (v<(l.length:Int)) then Xg (iB l v) λx=>g x F else F false) (λc=>if c=true then next (AQ (v+1)) else H v)) qb 0) K=K ((l.takeWhile p).length:Int):=by
 have P:=Ce p l;rw[AC,EL (λv:Int=>0<=v/\v<=((l.takeWhile p).length:Int)) (λv=>(l.length-v).toNat) (λ_=>K ((l.takeWhile p).length:Int)) ?_ qb 0 (by omega) (CB (by omega))];intro next v Q J
 obtain⟨k,rfl⟩ :∃k:Nat,v=k:=⟨v.toNat,by omega⟩;rw[AC];by_cases hk:k<l.length
 ·rw[Xl (by simpa using hk),BS hk,AA,hg _ (Wu hk)];have h:=OX (p:=p) hk (by omega);by_cases hp:p l[k]=true
  ·rw[Xl hp,AM (by omega)];have:=h.2 hp;exact J _ (by omega) (by omega)
  rw[Xk hp];have:¬ k<(l.takeWhile p).length:=λq=>hp (h.1 q);have:k=(l.takeWhile p).length:=by omega
  rw[this]
 rw[Xk (by simpa using hk)];have:k=(l.takeWhile p).length:=by omega
 subst this;rfl
def PV {α:Type}[DecidableEq α] :∀{l m:I α},l.Nodup->(∀x∈l,x∈m)->l.length<=m.length
 | [],_,_,_=>Xco _
 | x::t,m,h,F=>by obtain⟨M,P⟩:=List.nodup_cons.1 h;have H:=F x (by simp);have:=PV (m:=m.erase x) P λy J=>(List.mem_erase_of_ne (λe=>M (by rw[<- e];exact J))).2 (F y (X18 _ J));rw[List.length_erase_of_mem H] at this;have:0<m.length:=List.length_pos_of_mem H;simp only[X11];omega
def Rw {α:Type}{lt:α->α->Prop}(F :∀a,¬ lt a a)(H :∀a b c,lt a b->lt b c->lt a c) :∀{l m:I α},l.Pairwise lt->m.Pairwise lt->(∀x,x∈l↔x∈m)->l=m
 | [],[],_,_,_=>rfl
 | [],y::m,_,_,h=>by have:=(h y).2 (by simp);simp at this
 | x::l,[],_,_,h=>by have:=(h x).1 (by simp);simp at this
 | x::l,y::m,h1,U,h=>by
  obtain⟨Q,Y⟩:=Xac.1 h1;obtain⟨b1,b2⟩:=Xac.1 U;have M:x=y:=by
   rcases Xp.1 ((h x).1 (by simp)) with e|e
   ·exact e
   rcases Xp.1 ((h y).2 (by simp)) with P|P
   ·exact P.symm
   exact absurd (H _ _ _ (Q y P) (b1 x e)) (F x)
  subst M;congr 1;refine Rw F H Y b2 λz=>?_;constructor
  ·intro J;rcases Xp.1 ((h z).1 (X18 _ J)) with e|e
   ·subst e;exact absurd (Q z J) (F z)
   exact e
  intro J;rcases Xp.1 ((h z).2 (X18 _ J)) with e|e
  ·subst e;exact absurd (b1 z J) (F z)
  exact e
def NK {α:Type}(lt:α->α->C)(l:I α)(x:α):I α:=l.takeWhile (lt · x)++x::l.dropWhile (lt · x)
def KT {α:Type}{lt:α->α->C}{l:I α}{x y:α}:y∈NK lt l x↔y∈l\/y=x:=by
 unfold NK;have:y∈l↔y∈l.takeWhile (lt · x)\/y∈l.dropWhile (lt · x):=by rw[<- X22,Xbl]
 rw[this,X22,Xp];constructor
 ·rintro (h|h|h)
  ·exact .inl (.inl h)
  ·exact .inr h
  exact .inl (.inr h)
 rintro ((h|h)|h)
 ·exact .inl h
 ·exact .inr (.inr h)
 exact .inr (.inl h)
def K8 {α:Type}(lt:α->α->C)(l:I α)(x:α):(NK lt l x).length=l.length+1:=by unfold NK;have:=Xae List.length (Xbl (p:=(lt · x)) (l:=l));simp only[X10,X11] at this⊢;omega
def Iy {α:Type}(p:α->C){l:I α}{x:α}(h:x∈l.takeWhile p):p x=true:=by
 induction l with
 | nil=>simp at h
 | cons y t F=>
  rw[List.takeWhile_cons] at h;split at h
  ·rcases Xp.1 h with rfl|h
   ·assumption
   exact F h
  simp at h
def K2 {α:Type}{lt:α->α->C}(M :∀a b c,lt a b=true->lt b c=true->lt a c=true)(H :∀a b,lt a b=false->a=b\/lt b a=true){l:I α}{x:α}(h:l.Pairwise λa b=>lt a b=true)(Z:x∉l) : (NK lt l x).Pairwise λa b=>lt a b=true:=by
 have h0:=h;rw[<- Xbl (p:=(lt · x)) (l:=l),Xb4] at h;obtain⟨h1,P,h3⟩:=h;have hd :∀b∈l.dropWhile (lt · x),lt x b=true:=by
  cases Q:l.dropWhile (lt · x) with
  | nil=>intro b F;simp at F
  | cons y t=>
   have hy:lt y x=false:=by have:=List.head?_dropWhile_not (lt · x) l;rw[Q] at this;simpa using this
   have U:y∈l:=by
    have:y∈l.dropWhile (lt · x):=by rw[Q];simp
    exact List.dropWhile_subset _ this
   have J:lt x y=true:=by
    rcases H _ _ hy with e|e
    ·subst e;exact absurd U Z
    exact e
   rw[Q] at P;intro b F;rcases Xp.1 F with rfl|F
   ·exact J
   exact M _ _ _ J ((Xac.1 P).1 b F)
 unfold NK;rw[Xb4];refine⟨h1,Xac.2 ⟨hd,P⟩,λa Y b F=>?_⟩;rcases Xp.1 F with e|F
 ·rw[e];exact Iy (lt · x) Y
 exact h3 a Y b F
def r9 {α:Type}(p:α->C)(l:I α):l.take (l.takeWhile p).length=l.takeWhile p/\l.drop (l.takeWhile p).length=l.dropWhile p:=by
 have h:=Xbl (p:=p) (l:=l);constructor
 ·conv=>lhs;arg 2;rw[<- h]
  rw[List.take_left'];rfl
 conv=>lhs;arg 2;rw[<- h]
 rw[List.drop_left'];rfl
end Go.AX
end
section
namespace Go.AX
def X0 (a b:Int):Int:=if a<b then -1 else if b<a then 1 else 0
def tH:I Int->Int
 | []=>0
 | x::t=>if x=0 then tH t else x
def CS:I Int->I Int->Int
 | x::s,y::t=>if x<y then -1 else if y<x then 1 else CS s t
 | _,_=>0
def Xf (x:Int)(t:I Int):tH (x::t)=if x=0 then tH t else x:=rfl
def Lu (x y:Int)(t:I Int):tH (X0 x y::t)=if x<y then -1 else if y<x then 1 else tH t:=by
 rw[Xf];unfold X0;split
 ·rfl
 split<;>simp
def aV (x y:Int)(s t:I Int):CS (x::s) (y::t)=if x<y then -1 else if y<x then 1 else CS s t:=rfl
def iS:CS [] []=0:=rfl
def Hn :∀a:I Int,CS a a=0
 | []=>rfl
 | x::t=>by unfold CS;simp[Hn t]
def Hq :∀{a b:I Int},a.length=b.length->CS a b=0->a=b
 | [],[],_,_=>rfl
 | [],_::_,h,_=>by simp at h
 | _::_,[],h,_=>by simp at h
 | x::s,y::t,h,e=>by
  unfold CS at e;split at e
  ·simp at e
  split at e
  ·simp at e
  rw[Hq (by simpa using h) e,show x=y by omega]
def LF :∀a b:I Int,CS b a=- CS a b
 | [],[]=>rfl
 | [],_::_=>rfl
 | _::_,[]=>rfl
 | x::s,y::t=>by unfold CS;have:=LF s t;split<;>split<;>first|omega|(split<;>omega)
def OD :∀{a b c:I Int},a.length=b.length->b.length=c.length->CS a b<0->CS b c<0->CS a c<0
 | [],_,_,_,_,h,_=>by simp[CS] at h
 | _::_,[],_,h,_,_,_=>by simp at h
 | _::_,_::_,[],_,h,_,_=>by simp at h
 | x::s,y::t,z::u,h1,J,H,F=>by
  have K:=@OD s t u (by simpa using h1) (by simpa using J);unfold CS at H F⊢;by_cases M:x<y
  ·by_cases a2:y<z
   ·rw[Xl (by omega)];omega
   rw[Xk a2] at F;by_cases a3:z<y
   ·rw[Xl a3] at F;omega
   rw[Xl (by omega)];omega
  rw[Xk M] at H;by_cases a4:y<x
  ·rw[Xl a4] at H;omega
  rw[Xk a4] at H;have:x=y:=by omega
  subst this;by_cases a2:x<z
  ·rw[Xl a2];omega
  rw[Xk a2] at F⊢;by_cases a3:z<x
  ·rw[Xl a3] at F;omega
  rw[Xk a3] at F⊢;exact K H F
section
variable {X:Type} {key:X->I Int}
def s4 (key:X->I Int)(a b:X):C:=decide (CS (key a) (key b)<0)
def VN (a:X):s4 key a a=false:=by unfold s4;rw[Hn];rfl
def PN (F :∀a b:X,(key a).length=(key b).length)(a b c:X)(H:s4 key a b=true)(J:s4 key b c=true):s4 key a c=true:=by unfold s4 at *;simp only[Xh] at *;exact OD (F _ _) (F _ _) H J
def VJ (F :∀a b:X,(key a).length=(key b).length)(a b:X)(h:s4 key a b=false):key a=key b\/s4 key b a=true:=by
 unfold s4 at *;simp only[Xar,Xh] at *;have:=LF (key a) (key b);by_cases H:CS (key a) (key b)=0
 ·exact .inl (Hq (F _ _) H)
 exact .inr (by omega)
def XP (F :∀a b:X,(key a).length=(key b).length)(a b:X)(h:s4 key a b=true):s4 key b a=false:=by
 cases h1:s4 key b a
 ·rfl
 have:=PN F _ _ _ h h1;rw[VN] at this;simp at this
def jc (F :∀a b:X,(key a).length=(key b).length)(a b c:X)(H:s4 key a b=false)(J:s4 key b c=false):s4 key a c=false:=by
 rcases VJ F _ _ H with e|H
 ·unfold s4 at *;rw[e];exact J
 rcases VJ F _ _ J with e|J
 ·refine XP F _ _ ?_;unfold s4 at *;rw[<- e];exact H
 exact XP F _ _ (PN F _ _ _ J H)
variable {cmp:X->X->O Int}
def Zk (F :∀a b,cmp a b=some (CS (key a) (key b)))(a b:X):s7 cmp a b=s4 key a b:=by unfold s7;rw[F];rfl
def ke (K :∀a b:X,(key a).length=(key b).length)(F :∀a b,cmp a b=some (CS (key a) (key b))){l:I X}(P:l.length<=1000000000) : Ok (GM cmp l) λr=>r.Perm l/\r.Pairwise λa b=>s4 key b a=false:=by obtain⟨r,M⟩:=Sv (cmp:=cmp) (l:=l) (Zf (λa _ b _=>⟨_,F a b⟩) (λa _=>by rw[Zk F,VN]) (λa _ b _ c _ H J=>by rw[Zk F] at *;exact PN K _ _ _ H J) (λa _ b _ c _ H J=>by rw[Zk F] at *;exact jc K _ _ _ H J) P);obtain⟨H,J⟩:=J3 M;exact⟨r,M,H,J.imp λh=>by rw[Zk F] at h;exact h⟩
def Z9 {l:I X}(F :∀a b:X,(key a).length=(key b).length)(H:l.Pairwise λa b=>s4 key b a=false)(J:l.Pairwise λa b=>key a≠key b):l.Pairwise λa b=>s4 key a b=true:=
 (H.and J).imp λ{a b} h=>(VJ F b a h.1).resolve_left λe=>h.2 e.symm
def kB (F :∀a b:X,(key a).length=(key b).length){l m:I X}(H:l.Pairwise λa b=>s4 key a b=true)(J:m.Pairwise λa b=>s4 key a b=true)(h :∀x,x∈l↔x∈m):l=m:=
 Rw (lt:=λa b=>s4 key a b=true) (λa h=>by rw[VN] at h;simp at h) (λa b c=>PN F a b c) H J h
end
def OZ {α:Type}{lt:α->α->C}(htr :∀a b c,lt a b=true->lt b c=true->lt a c=true)(hirr :∀a,lt a a=false){l:I α}{x:α}(M:l.Pairwise λa b=>lt a b=true) : x∈l↔l[(l.takeWhile (lt · x)).length]?=some x:=by
 constructor
 ·intro F;rw[<- Xbl (p:=(lt · x)) (l:=l),X22] at F;rcases F with F|F
  ·have:=Iy (lt · x) F;rw[hirr] at this;simp at this
  have P:=(r9 (lt · x) l).2;cases H:l.dropWhile (lt · x) with
  | nil=>rw[H] at F;simp at F
  | cons y t=>
   have Q:lt y x=false:=by have:=List.head?_dropWhile_not (lt · x) l;rw[H] at this;simpa using this
   have hp:(y::t).Pairwise λa b=>lt a b=true:=by rw[<- H];exact M.sublist (List.dropWhile_sublist _)
   rw[H] at F;have J:x=y:=by
    rcases Xp.1 F with e|e
    ·exact e
    have:=(Xac.1 hp).1 x e;rw[Q] at this;simp at this
   have K:(l.drop (l.takeWhile (lt · x)).length)[0]?=some x:=by rw[P,H,J];rfl
   rw[List.getElem?_drop] at K;simpa using K
 intro h;exact Xbu h
def Yu {α:Type}{l:I α}{i:Int}{x:α}(F:0<=i)(h:l[i.toNat]?=some x):iB l i=some x:=by have:=(X15.1 h).1;unfold iB;rw[Xl (by omega),h]
def KV {α:Type}{l:I α}{i:Nat}{x:α}(h:i<l.length):(l.set i x).take (i+1)=l.take i++[x]:=by rw[Xc1,List.take_set_of_le (Xa2 _),List.getElem?_set_self h];rfl
section
variable {α:Type} {lt:α->α->C} (hirr :∀a,lt a a=false) (htr :∀a b c,lt a b=true->lt b c=true->lt a c=true) (htot :∀a b,lt a b=false->a=b\/lt b a=true)
include htr htot
include hirr
end
end Go.AX
end
