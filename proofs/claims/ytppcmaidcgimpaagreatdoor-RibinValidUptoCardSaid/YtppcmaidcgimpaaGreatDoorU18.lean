/-
  Texts of one proof, packed.
-/
import Derived.Test.YtppcmaidcgimpaaGreatDoorU14
import Derived.Test.YtppcmaidcgimpaaGreatDoorU15
import Derived.Test.YtppcmaidcgimpaaGreatDoorU17
import Derived.LaidSub
import Derived.MapKept
import Derived.Test.YtppcmaidcgimpaaGreatDoorRows
set_option linter.all false
set_option maxRecDepth 100000
set_option maxHeartbeats 4000000
open List renaming length_map→X10,length_append→X11,length_cons→X12,length_nil→X13,getElem?_eq_some_iff→X16,length_drop→X17,length_take→X18,mem_cons_of_mem→X19,length_replicate→X20,length_set→X21,mem_append→X23
open Option.some renaming injEq→X24,inj→X25
open Prod.mk renaming injEq→X26
open Bool renaming eq_iff_iff→X28
open Option renaming bind→Wb
open List renaming map→Xa1
open Go renaming FuncId→Xdm
open Go.Proofs.Tryz renaming prog→Xa9,underlying3→Xc0
open Nat renaming beq→Xab,ble→Xee
open Go.ByteArray renaming toList_eq→Xdl
section
namespace Go.AX.Q25
open Go Go.AX Go.Proofs
def wc:Xdm->I C:=λf=>(match Xab f 55 with|true=>[true,false,true]|false=>(match Xab f 52 with|true=>[true]|false=>(match Xab f 82 with|true=>[true]|false=>(match Xab f 242 with|true=>[true]|false=>(match Xab f 352 with|true=>[true]|false=>(match Xab f 162 with|true=>[true]|false=>(match Xab f 83 with|true=>[true]|false=>(match Xab f 84 with|true=>[true]|false=>(match Xab f 159 with|true=>[true]|false=>(match Xab f 80 with|true=>[true]|false=>(match Xab f 168 with|true=>[true]|false=>(match Xab f 336 with|true=>[true]|false=>(match Xab f 354 with|true=>[true]|false=>(match Xab f 176 with|true=>[true]|false=>(match Xab f 175 with|true=>[true]|false=>(match Xab f 289 with|true=>[true]|false=>[]))))))))))))))))
def Uj:Xdm->C:=λf=>(match Xab f 287 with|true=>true|false=>(match Xab f 240 with|true=>true|false=>(match Xab f 239 with|true=>true|false=>false)))
def s4:Nat->O (I (D×D)):=λg=>(match Xab g 0 with|true=>some (Am D.i D.i EB)|false=>none)
abbrev Wl (p:Prop):WL:=⟨p,s4⟩
def ok {wl:Prop}{f:Xdm}(fn:Func){args:I AV}{gL:I OB}{J:AV}{H:I OB} (K : Xa9.funcs[f]? = some fn) (P : (fn.name == "runtime.NumGoroutine") = false) (h : Yy (zw (Wl wl) Xa9 tt wc Uj 0 gL.length) fn args gL fun r o => r = J ∧ o = H) : Ao (Wl wl) Xa9 f args gL J H :=
  lu Ys (by kernel_rfl) wc Uj 0 K P h
def Mw {wl:Prop}{f:Xdm}(ex:Nat)(fn:Func){args:I AV}{gL:I OB}{J:AV}{H:I OB} (K : Xa9.funcs[f]? = some fn) (P : (fn.name == "runtime.NumGoroutine") = false) (h : Yy (zw (Wl wl) Xa9 tt wc Uj ex gL.length) fn args gL fun r o => r = J ∧ o = H) : Ao (Wl wl) Xa9 f args gL J H :=
  lu Ys (by kernel_rfl) wc Uj ex K P h
def inl {wl:Prop}{f:Xdm}(fn:Func)(np:Nat){args:I AV}{ob:I (O OB)}{K:AV->I (O OB)->Prop} (H : Xa9.funcs[f]? = some fn) (J : (fn.name == "runtime.NumGoroutine") = false) (h : jt (zw (Wl wl) Xa9 tt wc Uj 0 np) fn args ob K) : Xa (Wl wl) Xa9 f args ob K :=
  j9 Ys (by kernel_rfl) wc Uj np H J h
class CK {α:Type} (F:Option α) (f:outParam FuncId) (ag:outParam (List AV)) (os:outParam (List OB)) (c:outParam (α->AV)) (o:outParam (α->List OB)):Prop where
  ok :∀{wl:Prop} {v:α},F=some v->Ao (Wl wl) Tryz.prog f ag os (c v) (o v)
section
variable {U:sI} {p:Pl} {α ρ:Type} {F:O α} {f:FuncId} {ag:I AV} {os:I OB} {c:α->AV} {o:α->I OB} {wl:Prop} {k:α->O ρ} {r:ρ} {M:AV->I OB->O (I Nat)->Prop} {M2:AV->I OB->Prop} {L:Nat} {B:Prop}
def Wk.il {fn : Func}{n : Nat}{args : List AV}{ob : List (Option OB)}{K : AV → List (Option OB) → Prop}(k : Wk U p (jt (zw (Wl wl) Tryz.prog tt wc Uj 0 n) fn args ob K))(H : Tryz.prog.funcs[f]? = some fn := by kernel_rfl)(J : (fn.name == "runtime.NumGoroutine") = false := by kernel_rfl) : Wk U (.i fn n p) (Xa (Wl wl) Tryz.prog f args ob K) := ⟨inl fn n H J k.h⟩
theorem Wf {F : Option α}(ex : Nat)(fn : Func)(k : ∀ {wl : Prop} {v : α}, F = some v → Yy (zw (Wl wl) Tryz.prog tt wc Uj ex os.length) fn ag os fun r x => r = c v ∧ x = o v)(H : Tryz.prog.funcs[f]? = some fn := by kernel_rfl)(J : (fn.name == "runtime.NumGoroutine") = false := by kernel_rfl) : CK F f ag os c o := ⟨fun h => Mw ex fn H J (k h)⟩
theorem Wk.cS [i:CK F f ag os c o](h:Wb F k=some r)(n:Q3 (∀v,k v=some r->Wk U p (M (c v) (o v) (some [])))):Wk U p (∃H gL b,Ao (Wl wl) Xa9 f ag os H gL/\M H gL b):=⟨Ah h (λ_=>i.ok) λv e=>(n v e).h⟩
theorem Wk.cN {l:I Nat}[i:CK F f ag os c o](h:Wb F k=some r)(n:Q3 (∀v,k v=some r->Wk U p (M (c v) (o v) (some l)))):Wk U (.n l p) (∃H gL b,Ao (Wl wl) Xa9 f ag os H gL/\M H gL b):=⟨NC l h (λ_=>i.ok) λv e=>(n v e).h⟩
theorem Wk.cB [i:CK F f ag os c o](h:Wb F k=some r)(n:Q3 (∀v,k v=some r->Wk U p (M (c v) (o v) none))):Wk U (.m p) (∃H gL b,Ao (Wl wl) Xa9 f ag os H gL/\M H gL b):=⟨ZE h (λ_=>i.ok) λv e=>(n v e).h⟩
theorem Wk.cD [i:CK F f ag os c o](h:Wb F k=some r)(n:Q3 (∀v,k v=some r->Wk U p (M2 (c v) (o v))))(e :∀v,(o v).length=L):Wk U p (∃H gL,Ao (Wl wl) Xa9 f ag os H gL/\(gL.length=L\/B)/\M2 H gL):=⟨Db h (λ_=>i.ok) e λv e=>(n v e).h⟩
theorem Wk.cE {ob:I (O OB)}{self:Nat}{L:I OB->Prop}[i:CK F f ag os c o](h:Wb F k=some r)(n:Q3 (∀v,k v=some r->Wk U p (M2 (c v) (o v))))(e:ob[self]?=some none):Wk U (.m p) (∃H gL,Ao (Wl wl) Xa9 f ag os H gL/\(L gL\/ob[self]?=some none)/\M2 H gL):=⟨m7 h (λ_=>i.ok) e λv e=>(n v e).h⟩
def Wg {A:Prop}{a:Option ρ}(p:Pl)(h:a=some r) (k:a=some r->Wk ⟨[],[]⟩ p A:=by
 intro h;(try (with_reducible (conv at h=>lhs;whnf)));repeat' (first|((with_reducible refine q3 ?_);first|(refine rY ?_;intro a b c d e x h;(try (with_reducible (conv at h=>lhs;whnf)));try refine Wk.v a (Wk.v b (Wk.v c (Wk.v d (Wk.v e (Wk.v x ?_))))))|(refine qW ?_;intro a b c d e h;(try (with_reducible (conv at h=>lhs;whnf)));try refine Wk.v a (Wk.v b (Wk.v c (Wk.v d (Wk.v e ?_)))))|(refine qQ ?_;intro a b c d h;(try (with_reducible (conv at h=>lhs;whnf)));try refine Wk.v a (Wk.v b (Wk.v c (Wk.v d ?_))))|(refine rM ?_;intro a b c h;(try (with_reducible (conv at h=>lhs;whnf)));try refine Wk.v a (Wk.v b (Wk.v c ?_)))|(refine qc ?_;intro a b h;(try (with_reducible (conv at h=>lhs;whnf)));try refine Wk.v a (Wk.v b ?_))|(intro a h;try refine Wk.v a ?_))|((first|with_reducible refine q6 ?_|with_reducible refine q1 ?_);(first|refine rY ?_|refine qW ?_|refine qQ ?_|refine rM ?_|refine qc ?_|skip);intros;rename_i h;(try (with_reducible (conv at h=>lhs;whnf)));(conv=>whnf))|((first|with_reducible refine q2 ?_|with_reducible refine q5 ?_);(first|refine rY ?_|refine qW ?_|refine qQ ?_|refine rM ?_|refine qc ?_|skip);intros;rename_i h _;(try (with_reducible (conv at h=>lhs;whnf)));(conv=>whnf))|((with_reducible refine q4 ?_);intro _ h)|((with_reducible refine q7 ?_);intro a g h;try refine Wk.v a ?_)|(intro h)|((conv=>arg 2;whnf);(conv=>arg 3;whnf);first|with_reducible refine Wk.y ?_|refine Wk.il ?_|((with_reducible show Wk _ _ (∃_:sI,_));first|exact Wk.Nt h|exact Wk.Pk h|exact Wk.vu h|exact Wk.L3 h)|((with_reducible show Wk _ _ (xU _ _ _));first|refine Wk.cut h ?_ ?_|with_reducible refine Wk.g ?_|with_reducible refine Wk.go ?_)|((with_reducible show Wk _ _ (∃(_:AV) (_:List OB) (_:Option (List Nat)),_));first|refine Wk.cN h ?_|refine Wk.cB h ?_|((with_reducible refine Wk.s ?_);refine Wk.cS h ?_)|refine Wk.cS h ?_)|((with_reducible show Wk _ _ (∃(_:AV) (_:List OB),_));first|refine Wk.cE h ?_ rfl|((with_reducible refine Wk.s ?_);refine Wk.cD h ?_ (λ_=>rfl))|refine Wk.cD h ?_ (λ_=>rfl))|((with_reducible show Wk _ _ (Fh _ _ _=_/\_));refine Wk.cr ?_)|((with_reducible show Wk _ _ (Gj _=_/\_));refine Wk.dr ?_)|((with_reducible show Wk _ _ ((Gj _=_/\_)/\_));refine Wk.tr ?_)|((with_reducible show Wk _ _ (@Eq Nat _ _/\_));refine Wk.len ?_)|((with_reducible show Wk _ _ (@Eq AV _ _/\_));exact Wk.fin h)|((with_reducible show Wk _ _ (_=_/\_));refine Wk.and rfl ?_)|((with_reducible show Wk _ _ (_\/_));first|with_reducible refine Wk.l ?_|with_reducible refine Wk.inr ?_|with_reducible refine Wk.inl ?_)|((with_reducible show Wk _ _ (∃_,@Eq Nat _ _/\_));first|refine Wk.ex (X10 _) ?_|refine Wk.ex rfl ?_)|((with_reducible show Wk _ _ (∃_,@Eq Int (IntKind.wrap IntKind.i64 _) _/\_));first|refine Wk.ex (by assumption) ?_|refine Wk.ex (iP _) ?_|refine Wk.ex (cQ _) ?_|refine Wk.ex (cK _) ?_|refine Wk.ex rfl ?_)|((with_reducible show Wk _ _ (∃_,@Eq Int (IntKind.wrap _ _) _/\_));first|refine Wk.ex (UF _) ?_|refine Wk.ex (LW _) ?_|refine Wk.ex (nI _) ?_|refine Wk.ex (kt _) ?_)|((with_reducible show Wk _ _ (∃_,List.getD _ _ _=_/\_));first|refine Wk.ex (by assumption) ?_|refine Wk.ex (Kt (by assumption)) ?_|refine Wk.gd (f:=E.e) g ?_|refine Wk.ex rfl ?_)|((with_reducible show Wk _ _ (∃_,List.set _ _ _=_/\_));refine Wk.set h ?_)|((with_reducible show Wk _ _ (∃_,CM _ _ _=_/\_));first|refine Wk.Li (GT (ek:=D.i) Je) ?_|refine Wk.Li (GT (ek:=D.s) Iq) ?_|refine Wk.Li (GT (ek:=D.u8) mz) ?_)|((with_reducible show Wk _ _ (∃_,GE _ _ _ _=_/\_));first|refine Wk.ms Je ?_ rfl rfl|refine Wk.ms Iq ?_ rfl rfl|refine Wk.ms (es:=([]:List (ByteArray×Bool))) (ek:=D.s) (ev:=D.b) Iq ?_ rfl rfl|refine Wk.ms (es:=([]:List (Int×List UInt8))) (ek:=D.i) (ev:=D.l 1 D.u8) Je ?_ rfl rfl)|((with_reducible show Wk _ _ (∃_,Option.getD _ _=_/\_));refine Wk.Pp h ?_ rfl)|((with_reducible show Wk _ _ (∃_,Option.isSome _=_/\_));first|refine Wk.Pb h ?_|refine Wk.ex rfl ?_)|((with_reducible show Wk _ _ (∃_,Int.fdiv _ _=_/\_));first|refine Wk.ex (kh _ _) ?_|refine Wk.ex (eQ _ _) ?_|refine Wk.ex (oi _ _) ?_|refine Wk.ex (ny _ _) ?_|refine Wk.ex rfl ?_)|((with_reducible show Wk _ _ (∃_,_=_/\_));refine Wk.ex rfl ?_)|((with_reducible show Wk _ _ (xX _ _ _ _));first|refine Wk.for h rfl (by (conv=>whnf);exact wk) ?_ ?_|refine Wk.own h rfl (by (conv=>whnf);exact wk) ?_ ?_|refine Wk.Pu h (by (conv=>whnf);exact wk) ?_)|((with_reducible show Wk _ _ ((0<=_/\_<_)/\_));first|refine Wk.get h ?_ (λ_=>rfl)|refine Wk.idx (by assumption) (by assumption) ?_ rfl|refine Wk.get (f:=E.e) h ?_ (λ_=>rfl)|refine Wk.gb h ?_|refine Wk.gb (f:=E.e) h ?_|refine Wk.ib (by assumption) ?_)|((with_reducible show Wk _ _ ((0<=_/\_<=_/\_<=_)/\_));first|refine Wk.par h ?_|refine Wk.KM h ?_|refine Wk.par (f:=E.e) h ?_)|((with_reducible show Wk _ _ (((_+_)*_<=_/\_<=_)/\_));first|refine Wk.Mm h ?_|refine Wk.Mm (f:=E.e) h ?_)|((with_reducible show Wk _ _ ((_<=_/\_<=_)/\_));first|refine Wk.El h ?_|refine Wk.El (f:=E.e) h ?_)|((with_reducible show Wk _ _ (_≠_/\_));first|refine Wk.and (by decide) ?_|refine Wk.wQ h ?_)|((with_reducible show Wk _ _ (0<=_/\_));first|refine Wk.and (by decide) ?_|refine Wk.and (Int.natCast_nonneg _) ?_|refine Wk.wQ h ?_)|refine Wk.st (by assumption) ?_|refine Wk.se ?_|refine Wk.wC h ?_ ?_|refine Wk.L5 h ?_ ?_|exact Wk.zF h (by assumption) (by (conv=>whnf);exact wk) rfl rfl rfl|exact Wk.L7 h (by assumption) (by (conv=>whnf);exact wk)|exact Wk.Pc h (by assumption) (by exact wk) rfl rfl rfl|exact Wk.Lb h (by assumption) (by exact wk)|with_reducible refine Wk.e0 ?_))):A:=(k h).h
end
instance:E oF:=⟨oF.fv,2⟩
instance:E Addr:=⟨Addr.fv,3⟩
instance:E qv:=⟨qv.fv,2⟩
instance:E oB:=⟨oB.fv,3⟩
instance:E gH:=⟨gH.fv,3⟩
instance:E gE:=⟨gE.fv,1⟩
instance:E lf:=⟨lf.fv,1⟩
instance:E fI:=⟨fI.fv,4⟩
instance:E oA:=⟨oA.fv,1⟩
instance:E gD:=⟨gD.fv,18⟩
instance:E ls:=⟨ls.fv,1⟩
instance:E ye:=⟨ye.fv,1⟩
instance:E wz:=⟨wz.fv,2⟩
instance:E kI:=⟨kI.fv,6⟩
instance:E Set:=⟨Set.fv,3⟩
instance:E we:=⟨we.fv,1⟩
instance:E vV:=⟨vV.fv,1⟩
instance:E tT:=⟨tT.fv,1⟩
instance:E vZ:=⟨vZ.fv,1⟩
instance:E zM:=⟨zM.fv,1⟩
instance:E xN:=⟨xN.fv,2⟩
instance:E r9:=⟨r9.fv,1⟩
abbrev yb (x:C):AV:=.d (D.b x)
abbrev yi (x:Int):AV:=.d (D.i x)
abbrev yu (x:j):AV:=.d (D.u64 x)
abbrev yv (x:S):AV:=.d (D.u8 x)
abbrev ys (x:T):AV:=.d (D.s x)
def oK {wl:Prop}{f:FuncId}(fn:Func){args:List AV}{gL:List OB}{J:AV}{H:List OB}(h:Yy (zw (Wl wl) Tryz.prog tt wc Uj 0 gL.length) fn args gL fun r o=>r=J∧o=H)(K:Tryz.prog.funcs[f]?=some fn:=by kernel_rfl)(P:(fn.name == "runtime.NumGoroutine")=false:=by kernel_rfl):Ao (Wl wl) Tryz.prog f args gL J H:=ok fn K P h
def oKx {wl:Prop}{f:FuncId}(ex:Nat)(fn:Func){args:List AV}{gL:List OB}{J:AV}{H:List OB}(h:Yy (zw (Wl wl) Tryz.prog tt wc Uj ex gL.length) fn args gL fun r o=>r=J∧o=H)(K:Tryz.prog.funcs[f]?=some fn:=by kernel_rfl)(P:(fn.name == "runtime.NumGoroutine")=false:=by kernel_rfl):Ao (Wl wl) Tryz.prog f args gL J H:=Mw ex fn K P h
def cO {H:Array Oper}{e:List (List Nat×List Nat)}{K:Prop}(k:K)(h:xi H e=true:=by kernel_rfl):Fh H 0 e=true/\K:=Mu h k
def dO {H:Array Oper}{K:Prop}(k:K)(h:xy H=true:=by kernel_rfl):Gj H=true/\K:=Ms h k
abbrev yr (a b:Nat):AV:=.ref a b
abbrev yO {α:Type}(r:Nat)(f:α->D)(l:I α):AV:=.own r (Xa1 f l).length
abbrev yR {α:Type}(e s:Nat)(f:α->D)(l:I α):O OB:=some (OB.row e s (Xa1 f l) .no)
abbrev yB (l:I AV):O OB:=some (OB.box l)
abbrev y0 (l:I Addr):AV:=.d (D.l 3 Addr.fv l)
abbrev y1 (l:I gD):AV:=.d (D.l 18 gD.fv l)
abbrev y2 (l:I Int):AV:=.d (D.l 1 D.i l)
abbrev y3 (l:I oF):AV:=.d (D.l 2 oF.fv l)
abbrev y4 (l:I qv):AV:=.d (D.l 2 qv.fv l)
abbrev y5 (l:I oB):AV:=.d (D.l 3 oB.fv l)
abbrev y6 (l:I gH):AV:=.d (D.l 3 gH.fv l)
abbrev y7 (l:I T):AV:=.d (D.l 1 D.s l)
abbrev y8 (l:I fI):AV:=.d (D.l 4 fI.fv l)
abbrev y9 (l:I wz):AV:=.d (D.l 2 wz.fv l)
abbrev zd (l:I kI):AV:=.d (D.l 6 kI.fv l)
abbrev Kj (l:I xN):AV:=.d (D.l 2 xN.fv l)
abbrev Ma (l:I S):AV:=.d (D.l 1 D.u8 l)
abbrev CA (H:Int):O OB:=yB [yi H]
abbrev GC (H:I Int):O OB:=yB [y2 H]
abbrev LB (H:I gD)(J:Int)(K:T)(P:Int)(Q:Int)(V:C)(Y:Int)(Z:I Addr):O OB:=yB [AV.d (D.i J),AV.d (D.s K),AV.d (D.i P),AV.d (D.i Q),AV.d (D.l 3 Addr.fv Z),AV.d (D.b V),yO 38 gD.fv H,AV.d (D.i Y)]
abbrev Ka (H:I gD)(J:Int)(K:T)(P:Int)(Q:Int)(V:C)(Y:Int)(Z:I Addr):O OB:=yB [AV.d (D.i J),AV.d (D.s K),AV.d (D.i P),AV.d (D.i Q),AV.d (D.l 3 Addr.fv Z),AV.d (D.b V),yO 39 gD.fv H,AV.d (D.i Y)]
abbrev Mo (H:I gH):O OB:=yB [yO 168 gH.fv H]
abbrev zi :O OB:=yB [yr 0 0]
abbrev CI (H:I gH)(J:tT)(K:gE):I (O OB):=N::yB (tT.av J)::some (OB.row 96 3 (Xa1 gH.fv []) .no)::nn 53 (yB (gE.av K)::N::N::Mo H::nn 108 (yR 96 3 gH.fv H::nn 17 ([])))
abbrev Kb (J:I gD)(K:Int)(P:T)(Q:Int)(V:Int)(Y:C)(Z:Int)(a7:I Addr)(a8:vV)(a9:ls)(H:tT):I (O OB):=N::N::N::yB (vV.av a8)::yB (ls.av a9)::yB (tT.av H)::yB ls.zv::N::LB J K P Q V Y Z a7::nn 29 (yR 71 18 gD.fv J::nn 72 ([]))
abbrev Fs (H:vV)(J:ls)(K:tT)(P:ls)(Q:fI)(V:gD)(Y:gD):I (O OB):=nn 4 (yB (vV.av H)::yB (ls.av J)::yB (tT.av K)::yB (ls.av P)::N::N::N::yB (fI.av Q)::yB (gD.av V)::N::yB (gD.av Y)::nn 182 ([]))
abbrev DS :I AV:=X::yr 1 0::X::X::AV.own 4 (Xa1 gH.fv []).length::AV.mp 24::dd 189 ([])
abbrev Mg (H:C)(J:C)(K:C)(P:C)(Q:Int)(V:Int)(Y:Int)(Z:Int)(a8:I fI)(a9:I fI):I AV:=dd 4 (yr 4 0::yr 5 0::yr 6 0::yr 7 0::X::X::X::yr 11 0::yr 12 0::yb H::yr 14 0::yb J::yb K::yb P::dd 66 (y8 a8::yi Q::yi V::dd 16 (AV.d (D.l 4 fI.fv a9)::yi Y::yi Z::dd 91 ([]))))
abbrev M0 (H:C)(J:C)(K:C)(P:C)(Q:Int)(V:Int)(Y:Int)(Z:Int)(a8:I fI)(a9:I fI):I AV:=dd 4 (yr 4 0::yr 5 0::yr 6 0::yr 7 0::X::X::X::yr 11 0::yr 12 0::yb H::yr 14 0::yb J::yb K::yb P::dd 66 (y8 a8::yi Q::yi V::dd 30 (AV.d (D.l 4 fI.fv a9)::yi Y::yi Z::dd 77 ([]))))
abbrev qx (H:Int)(J:Int)(K:I ls):I AV:=dd 7 (yr 7 0::dd 5 (yr 47 0::yr 14 0::yr 15 0::dd 44 (yO 60 ls.fv K::yi H::yi J::dd 46 ([]))))
abbrev qS (H:I ls)(J:tT)(K:vV)(P:ls)(Q:r9):I (O OB):=nn 7 (yB (tT.av J)::nn 6 (yB (vV.av K)::yB (ls.av P)::nn 31 (yB (r9.av Q)::nn 12 (yR 27 8 ls.fv H::nn 48 ([])))))
abbrev uC (H:I ls)(J:I tT)(K:tT)(P:vV)(Q:ls)(V:ls)(Y:r9):I (O OB):=nn 7 (yB (tT.av K)::nn 6 (yB (vV.av P)::yB (ls.av Q)::N::yB (ls.av V)::nn 29 (yB (r9.av Y)::nn 12 (yR 27 8 ls.fv H::nn 16 (yR 39 13 tT.fv J::nn 31 ([]))))))
abbrev rD (H:Int)(J:Int)(K:I ls):I AV:=dd 11 (yr 11 0::X::yr 33 0::X::yr 15 0::dd 30 (yO 46 ls.fv K::yi H::yi J::dd 95 ([])))
abbrev tI (H:I ls)(J:I fI)(K:fI)(P:ls)(Q:ls)(V:r9):I (O OB):=nn 11 (yB (fI.av K)::N::N::N::yB (ls.av P)::N::yB (ls.av Q)::nn 15 (yB (r9.av V)::nn 12 (yR 27 8 ls.fv H::nn 15 (yR 67 4 fI.fv J::nn 81 ([])))))
abbrev qe (H:I ls)(J:fI)(K:ls)(P:r9):I (O OB):=nn 11 (yB (fI.av J)::N::N::N::yB (ls.av K)::nn 17 (yB (r9.av P)::nn 12 (yR 27 8 ls.fv H::nn 97 ([]))))
abbrev rb (H:vV)(J:ls)(K:tT)(P:ls)(Q:gD)(V:gD):I (O OB):=nn 4 (yB (vV.av H)::yB (ls.av J)::yB (tT.av K)::yB (ls.av P)::nn 4 (yB (gD.av Q)::N::yB (gD.av V)::nn 182 ([])))
abbrev kD (H:I T):I AV:=dd 7 (AV.mp 23::dd 4 (AV.mp 44::AV.mp 45::AV.mp 46::yO 48 D.s H::dd 82 ([])))
abbrev nu (H:vV)(J:ls)(K:tT)(P:ls):I (O OB):=nn 4 (yB (vV.av H)::yB (ls.av J)::yB (tT.av K)::yB (ls.av P)::nn 189 ([]))
abbrev kJ (H:vV)(J:ls)(K:ls):I (O OB):=nn 6 (yB (vV.av H)::yB (ls.av J)::yB (ls.av K)::nn 164 ([]))
abbrev iQ (H:gE)(J:gE):I (O OB):=N::N::yB (gE.av H)::yB (gE.av J)::nn 198 ([])
abbrev sd (H:Int)(J:Int)(K:I fI):I AV:=X::X::X::yr 3 0::yr 4 0::yr 5 0::yr 6 0::X::yr 8 0::dd 54 (AV.d (D.l 4 fI.fv K)::yi H::yi J::dd 45 ([]))
abbrev si (H:Int)(J:Int)(K:I fI):I AV:=X::X::X::yr 3 0::yr 4 0::yr 5 0::yr 6 0::X::yr 8 0::dd 45 (AV.d (D.l 4 fI.fv K)::yi H::yi J::dd 80 ([]))
abbrev sf (H:Int)(J:Int)(K:I fI):I AV:=X::X::X::yr 3 0::yr 4 0::yr 5 0::yr 6 0::X::yr 8 0::dd 31 (AV.d (D.l 4 fI.fv K)::yi H::yi J::dd 68 ([]))
abbrev iy (H:I kI):I (O OB):=yR 140 6 kI.fv H::nn 61 ([])
abbrev yC (wl:Prop):=Ao (Wl wl) Xa9
end Go.AX.Q25
end
section
namespace Go.AX.Q25
open Go Go.AX Go.Proofs Go.Proofs.YtppcmaidcgimpaaGreatDoor
def Mz {H:Type}:Lit×DataW H->D×D
 | (.int k n,.lit (.int F m))=>(.val (.int k n),.val (.int F m))
 | _=>(D.i 0,D.i 0)
def yf {W:B}{p:Prop}(h:laidMetH Xa9 Rows.ribinAppliesRow.laid W) :∃gb:Nat->Prop,(Wl p).gf gb W/\∀b,gb b->b<W.heap.size:=by
 have J := laidMetH.filter (fun x => x.1 == "exchangepoint/attribute.flags") h;have e2 : (Rows.ribinAppliesRow.laid.filter fun x => x.1 == "exchangepoint/attribute.flags") = [("exchangepoint/attribute.flags", Rows.laid_exchangepoint_attribute_flags)] := by kernel_rfl
 rw[e2] at J;obtain⟨H,_⟩:=laidMetH_iff.1 J;have e1 : (([("exchangepoint/attribute.flags", Rows.laid_exchangepoint_attribute_flags)] : I (String × DataW Unit)).filter fun x => x.2.handleName?.isNone) = [("exchangepoint/attribute.flags", Rows.laid_exchangepoint_attribute_flags)] := by kernel_rfl
 rw[e1] at H;obtain⟨ps,⟨g0,t0,a6,f0,p0,q0,K,Q,U,V,_⟩,_,_⟩:=H;obtain rfl := X25 ((show Xa9.globalNamed "exchangepoint/attribute.flags" = some 0 by kernel_rfl).symm.trans K);obtain rfl:=X25 ((show (Xa9.globals[0]?).map (·.type)=some 283 by kernel_rfl).symm.trans Q)
 obtain⟨b0,a0,c0,Y,M,Z,a1⟩:=lJ (kd:=.i64) Tryz.underlying283 Xc0 V Mz (λn v d m q hm F hf=>by
  obtain⟨j,H,J,_⟩:=DataW.trod_int Xc0 F;simp only[X26] at J;obtain⟨rfl,_⟩:=J;have F:v=.int .i64 j:=by unfold Value.formed at hf;rw[Xc0] at hf;cases v<;>simp_all [Value.cells]
  subst F
  exact⟨rfl,rfl⟩)
 have P :∀{g:Nat} {n:String} {cs:Array A} {v:A},Xa9.globalNamed n=some g->W.var? Xa9 n=some cs->cs.toList=[v]->cellAt W g 0=some v/\g<W.heap.size:=by
  intro g n cs v hg F hc;have H:=World.var?_cell hg F 0;rw[Array.eq_one_of_toList hc] at H;have H:W.cell? ⟨g,0,none⟩=some v:=by simpa using H
  refine⟨H,?_⟩;unfold World.var? at F;rw[hg,Xdv] at F;cases hh:W.heap[g]? with
  | none=>rw[hh] at F;cases F
  | some o=>exact (Array.getElem?_eq_some_iff.1 hh).1
 obtain⟨k0,s0⟩:=P K U Y;refine⟨λb=>b=0\/b=b0,λg es hg=>?_,λb hb=>?_⟩;rotate_left
 ·rcases hb with rfl|rfl
  ·exact s0
  exact (Array.getElem?_eq_some_iff.1 M).1
 match g,hg with
 | 0,hg=>obtain rfl:Am D.i D.i EB=es:=X25 hg;refine⟨.inl rfl,b0,a0,c0,_,.inr rfl,k0,M,λtk x q hq=>?_,jI a1⟩;refine Yz (l:=Am D.i D.i EB) (Z.symm) ?_ (by unfold EB Am;simp[D.i]) hq;intro q hq;obtain⟨z,_,rfl⟩:=Xaf.1 hq;exact⟨_,rfl⟩
 | g+1,hg=>cases hg
end Go.AX.Q25
end
section
namespace Go.AX
class Tt {ρ:Type} (m:Option ρ):Prop where
 h :∃r,m=some r
def Ok {ρ:Type}(m:O ρ)(Q:ρ->Prop):Prop:=∃r,m=some r/\Q r
def Ok.ret {ρ:Type}{Q:ρ->Prop}{r:ρ}(h:Q r):Ok (some r) Q:=⟨r,rfl,h⟩
theorem Ok.of {ρ:Type}{m:O ρ}[t:Tt m]:Ok m λr=>m=some r:=by obtain⟨r,h⟩:=t.h;exact⟨r,h,h⟩
def Ok.imp {ρ:Type}{m:O ρ}{P Q:ρ->Prop}(h:Ok m P)(k :∀r,P r->Q r):Ok m Q:=by obtain⟨r,F,H⟩:=h;exact⟨r,F,k r H⟩
theorem Ok.tt {ρ:Type}{m:O ρ}{Q:ρ->Prop}(h:Ok m Q):Tt m:=by obtain⟨r,F,_⟩:=h;exact⟨r,F⟩
def Ok.bind {α ρ:Type}{m:O α}{f:α->O ρ}{P:α->Prop}{Q:ρ->Prop}(h:Ok m P)(k :∀a,P a->Ok (f a) Q):Ok (Wb m f) Q:=by obtain⟨a,F,H⟩:=h;rw[F];exact k a H
def Ok.join {τ ρ:Type}{m:(τ->O ρ)->O ρ}{k:τ->O ρ}{Q:ρ->Prop}(J:τ->Prop)(H :∀F,(∀v,J v->Ok (F v) Q)->Ok (m F) Q)(K :∀v,J v->Ok (k v) Q):Ok (AB m k) Q:=H k K
def Ok.xL {α σ ρ:Type}{done:σ->O ρ}{body:(σ->O ρ)->α->Nat->σ->O ρ}{Q:ρ->Prop}{l:List α}{J:σ}(I:Nat->σ->Prop)(M:I 0 J)(P :∀s,I l.length s->Ok (done s) Q) (U :∀(next:σ->O ρ) x i s,l[i]?=some x->I i s->(∀F,I (i+1) F->Ok (next F) Q)->Ok (body next x i s) Q):Ok (AI done body l 0 J) Q:=by
 have key :∀(t:List α) (i:Nat) (s:σ),(∃p,l=p++t/\p.length=i)->I i s->Ok (AI done body t i s) Q:=by
  intro t;induction t with
  | nil=>intro i s ⟨p,hp,H⟩ K;exact P s (by rw[hp];simpa[H] using K)
  | cons x t V=>intro i s ⟨p,hp,H⟩ K;exact U _ x i s (by rw[hp,<- H];simp) K λF Y=>V (i+1) F ⟨p++[x],by simp[hp],by simp[H]⟩ Y
 exact key l 0 J ⟨[],rfl,rfl⟩ M
def Ok.z7 {α σ ρ:Type}{done:σ->O ρ}{body:(σ->O ρ)->α->Nat->σ->O ρ}{Q:ρ->Prop}{l:List α}{F:σ}(I:Nat->σ->Prop)(K:I 0 F)(M :∀s,I l.length s->Ok (done s) Q) (P :∀(next:σ->O ρ) x i s,i<l.length->x∈l->I i s->(∀H,I (i+1) H->Ok (next H) Q)->Ok (body next x i s) Q):Ok (AI done body l 0 F) Q:=
 .xL I K M λn x i s J=>P n x i s (X16.1 J).1 (Xcb J)
def Ok.for_ {α σ ρ:Type}{done:σ->O ρ}{body:(σ->O ρ)->α->Nat->σ->O ρ}{Q:ρ->Prop}{l:I α}{H:σ}(J :∀s,Ok (done s) Q) (K :∀(next:σ->O ρ) x i s,i<l.length->x∈l->(∀F,Ok (next F) Q)->Ok (body next x i s) Q):Ok (AI done body l 0 H) Q:=
 .z7 (λ_ _=>True) trivial (λs _=>J s) λn x i s M P _ U=>K n x i s M P λF=>U F trivial
def Ok.wA {σ ρ:Type}{body:(σ->O ρ)->σ->O ρ}{n:Nat}{s:σ}{Q:ρ->Prop}(I:σ->Prop)(F:σ->Nat)(J:I s)(K:F s<n) (M :∀(next:σ->O ρ) s,I s->(∀H,I H->F H<F s->Ok (next H) Q)->Ok (body next s) Q):Ok (BD body n s) Q:=
 XN I F Q (λnext s h k=>M next s h k) n s J K
def Ok.ite {ρ:Type}{p:Prop}[Decidable p]{x y:O ρ}{Q:ρ->Prop}(F:p->Ok x Q)(H:¬ p->Ok y Q):Ok (if p then x else y) Q:=by
 split
 ·exact F ‹_›
 exact H ‹_›
def Ok.mu {α:Type}{l:I α}{i:Int}(h:0<=i/\i<l.length):Ok (mu l i) λx=>x∈l/\mu l i=some x:=by
 have F:i.toNat<l.length:=by omega
 have H:Go.AX.mu l i=some l[i.toNat]:=by unfold Go.AX.mu;rw[Wr h];simp[F]
 exact⟨_,H,Xae F,H⟩
def Ok.wj {α:Type}{l:I α}{i:Int}{x:α}(h:0<=i/\i<l.length):Ok (wj l i x) λF=>F=l.set i.toNat x/\F.length=l.length:=by refine⟨_,?_,rfl,by simp⟩;unfold Go.AX.wj;rw[Wr h]
def Ok.gN {α:Type}{b:Nat}{l m:I α}(F:Xee b 65536=true)(h:l.length+m.length<=1000000000):Ok (gN b l m) λH=>H=l++m:=⟨_,AD F h,rfl⟩
def Ok.part {α:Type}{l:I α}{a b:Int}(h:0<=a/\a<=b/\b<=l.length):Ok (part l a b) λF=>F=(l.drop a.toNat).take (b.toNat-a.toNat)/\(F.length:Int)=b-a:=by refine⟨_,?_,rfl,by simp;omega⟩;unfold Go.AX.part;rw[Wr h]
def Ok.wQ {p:Prop}[Decidable p](h:p):Ok (wQ p) λ_=>True:=by refine⟨(),?_,trivial⟩;unfold Go.AX.wQ;rw[Wr h]
theorem Tt.wT {ρ:Type}{m:Option ρ} (h:Ok m λ_=>True:=by
  repeat' (first
   | exact Ok.ret trivial
   | assumption
   | (refine Ok.bind Ok.of ?_;intros)
   | (refine Ok.ite ?_ ?_<;>intros)
   | (refine Ok.join (λ_=>True) ?_ ?_<;>intros)
   | (refine Ok.for_ ?_ ?_<;>intros)
   | (refine Ok.bind (Ok.mu ?_) ?_<;>intros)
   | (refine Ok.bind (Ok.wQ ?_) ?_<;>intros)
   | exact ‹∀v,True->Ok _ _› _ trivial
   | exact ‹∀v,Ok _ _› _
   | solve_by_elim
   | (constructor<;>first|omega|(simp_all;done)|(simp_all;omega))
   | omega
   | decide)):Tt m:=h.tt
def Ok.q {ρ:Type}{m:Option ρ}{Q:ρ->Prop} (h:Ok m Q:=by
  repeat' (first
   | assumption
   | refine Ok.ret ?_
   | exact trivial
   | (refine Ok.bind Ok.of ?_;intros)
   | (refine Ok.ite ?_ ?_<;>intros)
   | (refine Ok.bind (Ok.wQ ?_) ?_<;>intros)
   | (refine Ok.bind (Ok.mu ?_) ?_<;>intros)
   | (refine Ok.bind (Ok.wj ?_) ?_<;>intros)
   | (refine Ok.bind (Ok.gN (by decide) ?_) ?_<;>intros)
   | refine ‹∀v,_->_->Ok _ _› _ ?_ ?_
   | refine ‹∀v,_->Ok _ _› _ ?_
   | exact ‹∀v,Ok _ _› _
   | (refine Ok.join (τ:=Bool) (λ_=>True) ?_ ?_<;>intros)
   | (refine Ok.join (τ:=Unit) (λ_=>True) ?_ ?_<;>intros)
   | omega
   | solve_by_elim
   | (simp_all;done)
   | (simp_all;omega)
   | (simp only[X11,X12,X13,X21,decide_eq_true_eq,beq_iff_eq,bne_iff_ne,Bool.not_eq_true'] at *;(try subst_vars);(try simp only[X11,X12,X13]);omega))):Ok m Q:=h
def Ok.pos {ρ:Type}{Q:ρ->Prop}{n:Nat}{g:(C->O ρ)->Int->O ρ}{k:Int->O ρ}(Z:n<=1000000000) (hg :∀(P:C->O ρ) (v:Int),0<=v->v<=n->(∀c,(c=true->v<n)->Ok (P c) Q)->Ok (g P v) Q) (V :∀v:Int,0<=v->v<=n->Ok (k v) Q) : Ok (AB (λU=>BD (λnext v=>AB (λH=>g H v) (λc=>if c=true then next (AO (v+1)) else U v)) tE 0) k) Q:=by refine .join (λv:Int=>0<=v/\v<=n) (λU J=>?_) λv F=>V v F.1 F.2;refine .wA (λv:Int=>0<=v/\v<=n) (λv=>(n-v).toNat) (by omega) (BW (by omega)) λnext v F K=>?_;refine .join (λc=>c=true->v<n) (λH M=>hg H v F.1 F.2 M) λc Y=>.ite (λh=>?_) λ_=>J v F;have:=Y h;rw[AG (by omega)];exact K _ (by omega) (by omega)
def Po {ρ:Type}(m:O ρ)(Q:ρ->Prop):Prop:=∀r,m=some r->Q r
def Po.ret {ρ:Type}{Q:ρ->Prop}{r:ρ}(h:Q r):Po (some r) Q:=λ_ e=>X25 e▸h
def Po.imp {ρ:Type}{m:O ρ}{P Q:ρ->Prop}(h:Po m P)(k :∀r,P r->Q r):Po m Q:=λr e=>k r (h r e)
def Po.bind {α ρ:Type}{m:O α}{f:α->O ρ}{Q:ρ->Prop}(k :∀a,m=some a->Po (f a) Q):Po (Wb m f) Q:=by
 intro r e;cases hm:m with
 | none=>rw[hm] at e;cases e
 | some a=>rw[hm] at e;exact k a hm r e
def Po.join {τ ρ:Type}{m:(τ->O ρ)->O ρ}{k:τ->O ρ}{Q:ρ->Prop}(J:τ->Prop)(H :∀F,(∀v,J v->Po (F v) Q)->Po (m F) Q)(K :∀v,J v->Po (k v) Q):Po (AB m k) Q:=H k K
def Po.ite {ρ:Type}{p:Prop}[Decidable p]{x y:O ρ}{Q:ρ->Prop}(F:p->Po x Q)(H:¬ p->Po y Q):Po (if p then x else y) Q:=by
 split
 ·exact F ‹_›
 exact H ‹_›
def Po.xL {α σ ρ:Type}{done:σ->O ρ}{body:(σ->O ρ)->α->Nat->σ->O ρ}{Q:ρ->Prop}{l:List α}{J:σ}(I:Nat->σ->Prop)(M:I 0 J)(P :∀s,I l.length s->Po (done s) Q) (U :∀(next:σ->O ρ) x i s,l[i]?=some x->I i s->(∀F,I (i+1) F->Po (next F) Q)->Po (body next x i s) Q):Po (AI done body l 0 J) Q:=by
 have key :∀(t:List α) (i:Nat) (s:σ),(∃p,l=p++t/\p.length=i)->I i s->Po (AI done body t i s) Q:=by
  intro t;induction t with
  | nil=>intro i s ⟨p,hp,H⟩ K;exact P s (by rw[hp];simpa[H] using K)
  | cons x t V=>intro i s ⟨p,hp,H⟩ K;exact U _ x i s (by rw[hp,<- H];simp) K λF Y=>V (i+1) F ⟨p++[x],by simp[hp],by simp[H]⟩ Y
 exact key l 0 J ⟨[],rfl,rfl⟩ M
def Po.for_ {α σ ρ:Type}{done:σ->O ρ}{body:(σ->O ρ)->α->Nat->σ->O ρ}{Q:ρ->Prop}{l:List α}{F:σ}(I:σ->Prop)(J:I F)(K :∀s,I s->Po (done s) Q) (M :∀(next:σ->O ρ) x i s,x∈l->I s->(∀H,I H->Po (next H) Q)->Po (body next x i s) Q):Po (AI done body l 0 F) Q:=
 .xL (λ_=>I) J K λn x i s P=>M n x i s (Xcb P)
def Po.gN {α:Type}{b:Nat}{l m:I α}:Po (Go.AX.gN b l m) λr=>r=l++m:=by
 intro r e;unfold Go.AX.gN at e;split at e
 ·exact (X25 e).symm
 cases e
def Po.mu {α:Type}{l:I α}{i:Int}:Po (Go.AX.mu l i) λx=>0<=i/\l[i.toNat]?=some x:=by
 intro r e;unfold Go.AX.mu at e;split at e
 ·rename_i h;exact⟨h.1,e⟩
 cases e
def Po.wj {α:Type}{l:I α}{i:Int}{x:α}:Po (Go.AX.wj l i x) λr=>0<=i/\i.toNat<l.length/\r=l.set i.toNat x:=by
 intro r e;unfold Go.AX.wj at e;split at e
 ·rename_i h;exact⟨h.1,by omega,(X25 e).symm⟩
 cases e
def Po.part {α:Type}{l:I α}{a b:Int}:Po (Go.AX.part l a b) λr=>r=(l.drop a.toNat).take (b.toNat-a.toNat):=by
 intro r e;unfold Go.AX.part at e;split at e
 ·exact (X25 e).symm
 cases e
def Ok.and {ρ:Type}{m:O ρ}{P Q:ρ->Prop}(h:Ok m P)(k:Po m Q):Ok m λr=>P r/\Q r:=by obtain⟨r,F,H⟩:=h;exact⟨r,F,H,k r F⟩
def Po.eq {ρ:Type}{m:O ρ}{r:ρ}{Q:ρ->Prop}(h:m=some r)(k:Q r):Po m Q:=h▸.ret k
def Po.wC {τ ρ:Type}{m:(τ->O ρ)->O ρ}{k:τ->O ρ}{Q:ρ->Prop}(H :∀F,(∀v,Po (F v) Q)->Po (m F) Q)(J :∀v,Po (k v) Q):Po (AB m k) Q:=H k J
end Go.AX
end
section
namespace Go.AX
def QP {α ρ:Type}{g:α->C}{body:(Unit->O ρ)->α->Nat->Unit->O ρ}{K:Unit->O ρ}{r0:O ρ} : ∀{l:I α} {i:Nat},(∀next x i,x∈l->body next x i ()=cond (g x) (next ()) r0)->AI K body l i ()=cond (l.all g) (K ()) r0
 | [],_,_=>rfl
 | x::t,i,h=>by
  show body (λs=>AI K body t (i+1) s) x i ()=_;rw[h _ x i (by simp),Xc3];cases g x
  ·rfl
  exact QP λnext y j F=>h next y j (X19 _ F)
def sR {α:Type}{f:α->O C}{q:α->C} :∀{l:I α} {i:Nat},(∀x∈l,f x=some (q x))-> AI (λ_=>some (-1)) (λnext x i _=>Wb (f x) λv=>if v then some (i:Int) else next ()) l i ()=some (match l.findIdx? q with|some j=>((i+j:Nat):Int)|none=>-1)
 | [],_,_=>rfl
 | x::t,i,h=>by
  show Wb (f x) (λv=>if v then some (i:Int) else AI (λ_=>some (-1)) _ t (i+1) ())=_;rw[h x (by simp),AA,List.findIdx?_cons];by_cases F:q x=true
  ·rw[Wr F,Wr F];simp
  rw[Wm F,Wm F,sR λy H=>h y (X19 _ H)];cases t.findIdx? q with
  | none=>rfl
  | some j=>simp only[Xbf];rw[show i+1+j=i+(j+1) by omega]
def M5 {α:Type}{f:α->O C}{q:α->C}{l:I α}(h :∀x∈l,f x=some (q x)) : (Wb (AB (τ:=Unit) (λH=>AI (λ_=>H ()) (λnext x i _=>Wb (f x) λv=>if v then some (i:Int) else next ()) l 0 ()) λ_=>some (-1)) λv1=>some (decide (v1≥0)))=some (l.any q):=by
 rw[AC,sR h,AA];congr 1;cases F:l.findIdx? q with
 | none=>
  have:l.any q=false:=by rw[List.findIdx?_eq_none_iff] at F;simp only[List.any_eq_false];intro x J;simp[F x J]
  rw[this];rfl
 | some j=>have M:=List.findIdx?_eq_some_iff_getElem.1 F;obtain⟨P,Q,_⟩:=M;have:l.any q=true:=List.any_eq_true.2 ⟨_,Xae P,Q⟩;rw[this];simp
def Pw {α:Type}[DecidableEq α]{a b:I α}{e:α->α->C}(P :∀x y,e x y=!decide (x=y)) : (if ((a.length:Int) !=(b.length:Int)) then some false else AB (τ:=Unit) (λQ=>AI (λ_=>Q ()) (λnext x i _=>Wb (mu b (i:Int)) λv=>if e v x then some false else next ()) a 0 ()) λ_=>some true)=some (decide (a=b)):=by
 by_cases M:a.length=b.length
 ·rw[Wm (by simp[M]),AC];have key :∀(t:I α) (i:Nat),i+t.length=b.length->AI (λ_=>some true) (λnext x i _=>Wb (mu b (i:Int)) λv=>if e v x then some false else next ()) t i ()=some (decide (t=b.drop i)):=by
   intro t;induction t with
   | nil=>intro i H;simp only[X13,Xd4] at H;rw[H,List.drop_length];rfl
   | cons x t U=>
    intro i H;simp only[X12] at H;have F:i<b.length:=by omega
    show Wb (mu b (i:Int)) (λv=>if e v x then some false else AI (λ_=>some true) _ t (i+1) ())=_;have Y:b.drop i=b[i]::b.drop (i+1):=Xbp F;rw[BY F,AA,U (i+1) (by omega),Y,P];generalize b[i]=y;generalize b.drop (i+1)=u;by_cases J:y=x
    ·subst J;simp
    simp[J,Ne.symm J]
  rw[key a 0 (by omega),List.drop_zero]
 rw[Wr (by simp;omega)];have:¬ a=b:=by rintro rfl;exact M rfl
 rw[Xa5 this]
def qg (a b:T):(a.toList==b.toList)=decide (a=b):=by
 have h:a.toList=b.toList↔a=b:=by
  rw[Xdl,Xdl];constructor
  ·intro h;have F:a.data=b.data:=Array.toList_inj.1 h;cases a;cases b;simp_all
  rintro rfl;rfl
 rw[X28,Xbr,Wd,h]
def YB {a b:T}(h:(a==b)=true):a=b:=(Go.MapKept.bytes_beq a b).1 h
def qh {a:T}:(a==a)=true:=(Go.MapKept.bytes_beq a a).2 rfl
instance:LawfulBEq T:={ eq_of_beq:=YB,rfl:=qh }
section
variable {K V:Type} [BEq K] [LawfulBEq K]
def wV (l:I (K×V))(k:K)(v:V)(F:K):A7 (BN l k v) F=if F==k then some v else A7 l F:=by
 induction l with
 | nil=>unfold BN;simp only[A7]
 | cons p l H=>
  unfold BN;by_cases hp:(k==p.1)=true
  ·rw[Wr hp];have:=eq_of_beq hp;simp only[A7];by_cases hk:(F==k)=true
   ·rw[Wr hk,Wr hk]
   rw[Wm hk,Wm hk,Wm (by rw[<- this];exact hk)]
  rw[Wm hp];simp only[A7,H];by_cases hk:(F==k)=true
  ·have:=eq_of_beq hk;subst this;rw[Wm hp,Wr hk,Wr hk]
  rw[Wm hk,Wm hk]
def Wv {l:I (K×V)}{k:K}{v:V}(h:A7 l k=some v):(k,v)∈l:=by
 induction l with
 | nil=>simp[A7] at h
 | cons p l F=>
  simp only[A7] at h;split at h
  ·rename_i hp;have:=eq_of_beq hp;simp only[X24] at h;subst h this;simp
  exact X19 _ (F h)
def jA {l:I (K×V)}{k:K}:A7 l k=none ↔∀p∈l,p.1≠k:=by
 induction l with
 | nil=>simp[A7]
 | cons p l F=>
  simp only[A7,Xa3,forall_eq_or_imp];by_cases hp:(k==p.1)=true
  ·rw[Wr hp];have:=eq_of_beq hp;simp[this]
  rw[Wm hp,F];have:p.1≠k:=λe=>hp (by rw[e];exact Xd0 k);simp[this]
def gI {l:I (K×V)}{k:K}:(∃v,A7 l k=some v)↔k∈l.map (·.1):=by
 constructor
 ·rintro⟨v,h⟩;exact Xaf.2 ⟨_,Wv h,rfl⟩
 intro h;obtain⟨p,hp,rfl⟩:=Xaf.1 h;cases hg:A7 l p.1 with
 | none=>exact absurd rfl (jA.1 hg p hp)
 | some v=>exact⟨v,rfl⟩
def OO (l:I (K×V))(k:K)(v:V):(BN l k v).map (·.1)=if k∈l.map (·.1) then l.map (·.1) else l.map (·.1)++[k]:=by
 induction l with
 | nil=>simp[BN]
 | cons p l H=>
  unfold BN;by_cases hp:(k==p.1)=true
  ·rw[Wr hp];have:=eq_of_beq hp;simp[this]
  rw[Wm hp,Xbu,H];have F:¬ k=p.1:=λe=>hp (by rw[e];exact Xd0 _);simp only[Xbu,Xa3,F,false_or];split
  ·rfl
  simp
def Md {l:I (K×V)}{k:K}{v:V}(h:(l.map (·.1)).Nodup):((BN l k v).map (·.1)).Nodup:=by
 rw[OO];split
 ·exact h
 rename_i hk;rw[Xd2];exact⟨h,by simp,λa H b F e=>by simp at F;subst F;subst e;exact hk H⟩
def Fj {l:I (K×V)}{k:K}{v:V}{x:K}:x∈(BN l k v).map (·.1)↔x∈l.map (·.1)\/x=k:=by
 rw[OO];split
 ·rename_i hk;constructor
  ·exact .inl
  rintro (h|rfl)
  ·exact h
  exact hk
 simp
def Yw (l:I (K×V))(k:K)(v:V):(BN l k v).length<=l.length+1:=by have:=Xa4 List.length (OO l k v);simp only[X10] at this;rw[this];split<;>simp
end
def Dp {α:Type}(p:α->C)(l:I α):(l.takeWhile p).length<=l.length:=(List.takeWhile_prefix p).length_le
def RF {α:Type}{p:α->C} :∀{l:I α} {k:Nat} (F:k<l.length),k<=(l.takeWhile p).length->(k<(l.takeWhile p).length↔p l[k]=true)
 | [],_,F,_=>by simp at F
 | x::t,k,F,h=>by
  rw[List.takeWhile_cons] at h⊢;by_cases hp:p x=true
  ·rw[Wr hp] at h⊢;cases k with
   | zero=>simp[hp]
   | succ k=>simpa using RF (p:=p) (l:=t) (k:=k) (by simpa using F) (by simpa using h)
  rw[Wm hp] at h⊢;have:k=0:=by simpa using h
  subst this;simp[hp]
def pH {α ρ:Type}{l:I α}{p:α->C}(g:α->(C->O ρ)->O ρ){K:Int->O ρ}(M:l.length<=1000000000000)(hg :∀x∈l,∀k,g x k=k (p x)) : AB (λH=>BD (λnext v=>AB (λF=>if decide (v<(l.length:Int)) then Wb (mu l v) λx=>g x F else F false) (λc=>if c=true then next (AO (v+1)) else H v)) tE 0) K=K ((l.takeWhile p).length:Int):=by
 have P:=Dp p l;rw[AC,Dq (λv:Int=>0<=v/\v<=((l.takeWhile p).length:Int)) (λv=>(l.length-v).toNat) (λ_=>K ((l.takeWhile p).length:Int)) ?_ tE 0 (by omega) (BW (by omega))];intro next v Q J
 obtain⟨k,rfl⟩ :∃k:Nat,v=k:=⟨v.toNat,by omega⟩;rw[AC];by_cases hk:k<l.length
 ·rw[Wr (by simpa using hk),BY hk,AA,hg _ (Xae hk)];have h:=RF (p:=p) hk (by omega);by_cases hp:p l[k]=true
  ·rw[Wr hp,AG (by omega)];have:=h.2 hp;exact J _ (by omega) (by omega)
  rw[Wm hp];have:¬ k<(l.takeWhile p).length:=λq=>hp (h.1 q);have:k=(l.takeWhile p).length:=by omega
  rw[this]
 rw[Wm (by simpa using hk)];have:k=(l.takeWhile p).length:=by omega
 subst this;rfl
def Lr {α:Type}[DecidableEq α] :∀{l m:I α},l.Nodup->(∀x∈l,x∈m)->l.length<=m.length
 | [],_,_,_=>Xd7 _
 | x::t,m,h,F=>by obtain⟨M,P⟩:=List.nodup_cons.1 h;have H:=F x (by simp);have:=Lr (m:=m.erase x) P λy J=>(List.mem_erase_of_ne (λe=>M (by rw[<- e];exact J))).2 (F y (X19 _ J));rw[List.length_erase_of_mem H] at this;have:0<m.length:=List.length_pos_of_mem H;simp only[X12];omega
def J3 {α:Type}{lt:α->α->Prop}(F :∀a,¬ lt a a)(H :∀a b c,lt a b->lt b c->lt a c) :∀{l m:I α},l.Pairwise lt->m.Pairwise lt->(∀x,x∈l↔x∈m)->l=m
 | [],[],_,_,_=>rfl
 | [],y::m,_,_,h=>by have:=(h y).2 (by simp);simp at this
 | x::l,[],_,_,h=>by have:=(h x).1 (by simp);simp at this
 | x::l,y::m,h1,U,h=>by
  obtain⟨Q,Y⟩:=Xb4.1 h1;obtain⟨b1,b2⟩:=Xb4.1 U;have M:x=y:=by
   rcases Xa3.1 ((h x).1 (by simp)) with e|e
   ·exact e
   rcases Xa3.1 ((h y).2 (by simp)) with P|P
   ·exact P.symm
   exact absurd (H _ _ _ (Q y P) (b1 x e)) (F x)
  subst M;congr 1;refine J3 F H Y b2 λz=>?_;constructor
  ·intro J;rcases Xa3.1 ((h z).1 (X19 _ J)) with e|e
   ·subst e;exact absurd (Q z J) (F z)
   exact e
  intro J;rcases Xa3.1 ((h z).2 (X19 _ J)) with e|e
  ·subst e;exact absurd (b1 z J) (F z)
  exact e
def Kz {α:Type}(lt:α->α->C)(l:I α)(x:α):I α:=l.takeWhile (lt · x)++x::l.dropWhile (lt · x)
def Fq {α:Type}{lt:α->α->C}{l:I α}{x y:α}:y∈Kz lt l x↔y∈l\/y=x:=by
 unfold Kz;have:y∈l↔y∈l.takeWhile (lt · x)\/y∈l.dropWhile (lt · x):=by rw[<- X23,Xet]
 rw[this,X23,Xa3];constructor
 ·rintro (h|h|h)
  ·exact .inl (.inl h)
  ·exact .inr h
  exact .inl (.inr h)
 rintro ((h|h)|h)
 ·exact .inl h
 ·exact .inr (.inr h)
 exact .inr (.inl h)
def Hw {α:Type}(lt:α->α->C)(l:I α)(x:α):(Kz lt l x).length=l.length+1:=by unfold Kz;have:=Xa4 List.length (Xet (p:=(lt · x)) (l:=l));simp only[X11,X12] at this⊢;omega
def Ip {α:Type}(p:α->C){l:I α}{x:α}(h:x∈l.takeWhile p):p x=true:=by
 induction l with
 | nil=>simp at h
 | cons y t F=>
  rw[List.takeWhile_cons] at h;split at h
  ·rcases Xa3.1 h with rfl|h
   ·assumption
   exact F h
  simp at h
def Np {α:Type}{lt:α->α->C}(M :∀a b c,lt a b=true->lt b c=true->lt a c=true)(H :∀a b,lt a b=false->a=b\/lt b a=true){l:I α}{x:α}(h:l.Pairwise λa b=>lt a b=true)(Z:x∉l) : (Kz lt l x).Pairwise λa b=>lt a b=true:=by
 have h0:=h;rw[<- Xet (p:=(lt · x)) (l:=l),Xbm] at h;obtain⟨h1,P,h3⟩:=h;have hd :∀b∈l.dropWhile (lt · x),lt x b=true:=by
  cases Q:l.dropWhile (lt · x) with
  | nil=>intro b F;simp at F
  | cons y t=>
   have hy:lt y x=false:=by have:=List.head?_dropWhile_not (lt · x) l;rw[Q] at this;simpa using this
   have U:y∈l:=by
    have:y∈l.dropWhile (lt · x):=by rw[Q];simp
    exact List.dropWhile_subset _ this
   have J:lt x y=true:=by
    rcases H _ _ hy with e|e
    ·subst e;exact absurd U Z
    exact e
   rw[Q] at P;intro b F;rcases Xa3.1 F with rfl|F
   ·exact J
   exact M _ _ _ J ((Xb4.1 P).1 b F)
 unfold Kz;rw[Xbm];refine⟨h1,Xb4.2 ⟨hd,P⟩,λa Y b F=>?_⟩;rcases Xa3.1 F with e|F
 ·rw[e];exact Ip (lt · x) Y
 exact h3 a Y b F
def wH {α:Type}(p:α->C)(l:I α):l.take (l.takeWhile p).length=l.takeWhile p/\l.drop (l.takeWhile p).length=l.dropWhile p:=by
 have h:=Xet (p:=p) (l:=l);constructor
 ·conv=>lhs;arg 2;rw[<- h]
  rw[List.take_left'];rfl
 conv=>lhs;arg 2;rw[<- h]
 rw[List.drop_left'];rfl
end Go.AX
end
