/-
  Texts of one proof, packed.
-/
import Derived.Test.YthbbpeeghmpcfaaGreatDoorR14
import Derived.Test.YthbbpeeghmpcfaaGreatDoorR15
import Derived.Test.YthbbpeeghmpcfaaGreatDoorR17
import Derived.LaidSub
import Derived.MapKept
import Derived.Test.YthbbpeeghmpcfaaGreatDoorRows
set_option linter.all false
set_option maxRecDepth 100000
set_option maxHeartbeats 4000000
open List renaming length_map→X1,length_append→X2,length_cons→X3,length_nil→X10,mem_singleton→X11,getElem?_eq_some_iff→X13,length_drop→X14,length_take→X15,mem_cons_of_mem→X16,length_replicate→X17,length_set→X18,mem_append→X20
open Option.some renaming injEq→X21,inj→X22
open Prod.mk renaming injEq→X23
open Bool renaming eq_iff_iff→X25
open Option renaming bind→Xx
open Int renaming toNat→Xa0
open List renaming map→Xa5,take→Xb7,drop→Xb8
open Go renaming FuncId→Xdy
open Nat renaming beq→Xal,ble→Xeo
open Go.Proofs.Tryz renaming prog→Xcc,underlying262→Xdg,underlying3→Xdv
open Go.Value renaming cells→Xe2
open Go.ByteArray renaming toList_eq→Xen
section
namespace Go.AX.Q33
open Go Go.AX Go.Proofs
def zV:Xdy->O I:=λf=>(match Xal f 245 with|true=>[true]|false=>(match Xal f 250 with|true=>[true]|false=>(match Xal f 234 with|true=>[true]|false=>(match Xal f 123 with|true=>[true]|false=>(match Xal f 251 with|true=>[true]|false=>(match Xal f 246 with|true=>[true]|false=>(match Xal f 235 with|true=>[true]|false=>[])))))))
def U5:Xdy->I:=λf=>(match Xal f 241 with|true=>true|false=>(match Xal f 237 with|true=>true|false=>(match Xal f 231 with|true=>true|false=>(match Xal f 230 with|true=>true|false=>(match Xal f 229 with|true=>true|false=>(match Xal f 228 with|true=>true|false=>(match Xal f 227 with|true=>true|false=>(match Xal f 226 with|true=>true|false=>(match Xal f 225 with|true=>true|false=>(match Xal f 224 with|true=>true|false=>(match Xal f 223 with|true=>true|false=>(match Xal f 120 with|true=>true|false=>(match Xal f 116 with|true=>true|false=>(match Xal f 86 with|true=>true|false=>false))))))))))))))
def wa:Nat->C (O (D×D)):=λg=>(match Xal g 1 with|true=>some ([(D.i 1,D.val (.func (.func 223) #[] #[])),(D.i 2,D.val (.func (.func 224) #[] #[])),(D.i 3,D.val (.func (.func 225) #[] #[])),(D.i 4,D.val (.func (.func 226) #[] #[])),(D.i 5,D.val (.func (.func 228) #[] #[])),(D.i 8,D.val (.func (.func 229) #[] #[])),(D.i 32,D.val (.func (.func 230) #[] #[])),(D.i 35,D.val (.func (.func 231) #[] #[]))])|false=>(match Xal g 0 with|true=>some (BK D.i D.i Oj)|false=>none))
abbrev Wl (p:Prop):WL:=⟨p,wa⟩
def ok {wl:Prop}{f:Xdy}(fn:Func){args:O AV}{gM:O OB}{J:AV}{H:O OB} (K : Xcc.funcs[f]? = some fn) (P : (fn.name == "runtime.NumGoroutine") = false) (h : bD (Rs (Wl wl) Xcc tt zV U5 0 gM.length) fn args gM fun r o => r = J ∧ o = H) : xV (Wl wl) Xcc f args gM J H :=
  tU lL (by kernel_rfl) zV U5 0 K P h
def okx {wl:Prop}{f:Xdy}(ex:Nat)(fn:Func){args:O AV}{gM:O OB}{J:AV}{H:O OB} (K : Xcc.funcs[f]? = some fn) (P : (fn.name == "runtime.NumGoroutine") = false) (h : bD (Rs (Wl wl) Xcc tt zV U5 ex gM.length) fn args gM fun r o => r = J ∧ o = H) : xV (Wl wl) Xcc f args gM J H :=
  tU lL (by kernel_rfl) zV U5 ex K P h
def inl {wl:Prop}{f:Xdy}(fn:Func)(np:Nat){args:O AV}{ob:O (C OB)}{K:AV->O (C OB)->Prop} (H : Xcc.funcs[f]? = some fn) (J : (fn.name == "runtime.NumGoroutine") = false) (h : qZ (Rs (Wl wl) Xcc tt zV U5 0 np) fn args ob K) : Z6 (Wl wl) Xcc f args ob K :=
  t7 lL (by kernel_rfl) zV U5 np H J h
class CK {α:Type} (F:Option α) (f:outParam FuncId) (ag:outParam (List AV)) (os:outParam (List OB)) (c:outParam (α->AV)) (o:outParam (α->List OB)):Prop where
  ok :∀{wl:Prop} {v:α},F=some v->xV (Wl wl) Tryz.prog f ag os (c v) (o v)
section
variable {U:wD} {p:Pl} {α ρ:Type} {F:C α} {f:FuncId} {ag:O AV} {os:O OB} {c:α->AV} {o:α->O OB} {wl:Prop} {k:α->C ρ} {r:ρ} {M:AV->O OB->C (O Nat)->Prop} {M2:AV->O OB->Prop} {L:Nat} {B:Prop}
def Wk.il {fn : Func}{n : Nat}{args : List AV}{ob : List (Option OB)}{K : AV → List (Option OB) → Prop}(k : Wk U p (qZ (Rs (Wl wl) Tryz.prog tt zV U5 0 n) fn args ob K))(H : Tryz.prog.funcs[f]? = some fn := by kernel_rfl)(J : (fn.name == "runtime.NumGoroutine") = false := by kernel_rfl) : Wk U (.i fn n p) (Z6 (Wl wl) Tryz.prog f args ob K) := ⟨inl fn n H J k.h⟩
theorem Wf {F : Option α}(ex : Nat)(fn : Func)(k : ∀ {wl : Prop} {v : α}, F = some v → bD (Rs (Wl wl) Tryz.prog tt zV U5 ex os.length) fn ag os fun r x => r = c v ∧ x = o v)(H : Tryz.prog.funcs[f]? = some fn := by kernel_rfl)(J : (fn.name == "runtime.NumGoroutine") = false := by kernel_rfl) : CK F f ag os c o := ⟨fun h => okx ex fn H J (k h)⟩
theorem Wk.cS [i:CK F f ag os c o](h:Xx F k=some r)(n:Q3 (∀v,k v=some r->Wk U p (M (c v) (o v) (some [])))):Wk U p (∃H gM b,xV (Wl wl) Xcc f ag os H gM/\M H gM b):=⟨Bv h (λ_=>i.ok) λv e=>(n v e).h⟩
theorem Wk.cN {l:O Nat}[i:CK F f ag os c o](h:Xx F k=some r)(n:Q3 (∀v,k v=some r->Wk U p (M (c v) (o v) (some l)))):Wk U (.n l p) (∃H gM b,xV (Wl wl) Xcc f ag os H gM/\M H gM b):=⟨RJ l h (λ_=>i.ok) λv e=>(n v e).h⟩
theorem Wk.cB [i:CK F f ag os c o](h:Xx F k=some r)(n:Q3 (∀v,k v=some r->Wk U p (M (c v) (o v) none))):Wk U (.m p) (∃H gM b,xV (Wl wl) Xcc f ag os H gM/\M H gM b):=⟨lu h (λ_=>i.ok) λv e=>(n v e).h⟩
theorem Wk.cD [i:CK F f ag os c o](h:Xx F k=some r)(n:Q3 (∀v,k v=some r->Wk U p (M2 (c v) (o v))))(e :∀v,(o v).length=L):Wk U p (∃H gM,xV (Wl wl) Xcc f ag os H gM/\(gM.length=L\/B)/\M2 H gM):=⟨NK h (λ_=>i.ok) e λv e=>(n v e).h⟩
theorem Wk.cE {ob:O (C OB)}{self:Nat}{L:O OB->Prop}[i:CK F f ag os c o](h:Xx F k=some r)(n:Q3 (∀v,k v=some r->Wk U p (M2 (c v) (o v))))(e:ob[self]?=some none):Wk U (.m p) (∃H gM,xV (Wl wl) Xcc f ag os H gM/\(L gM\/ob[self]?=some none)/\M2 H gM):=⟨Z8 h (λ_=>i.ok) e λv e=>(n v e).h⟩
def Wg {A:Prop}{a:Option ρ}(p:Pl)(h:a=some r) (k:a=some r->Wk ⟨[],[]⟩ p A:=by
 intro h;(try (with_reducible (conv at h=>lhs;whnf)));repeat' (first|((with_reducible refine q3 ?_);first|(refine vM ?_;intro a b c d e x h;(try (with_reducible (conv at h=>lhs;whnf)));try refine Wk.v a (Wk.v b (Wk.v c (Wk.v d (Wk.v e (Wk.v x ?_))))))|(refine uI ?_;intro a b c d e h;(try (with_reducible (conv at h=>lhs;whnf)));try refine Wk.v a (Wk.v b (Wk.v c (Wk.v d (Wk.v e ?_)))))|(refine uB ?_;intro a b c d h;(try (with_reducible (conv at h=>lhs;whnf)));try refine Wk.v a (Wk.v b (Wk.v c (Wk.v d ?_))))|(refine u9 ?_;intro a b c h;(try (with_reducible (conv at h=>lhs;whnf)));try refine Wk.v a (Wk.v b (Wk.v c ?_)))|(refine uQ ?_;intro a b h;(try (with_reducible (conv at h=>lhs;whnf)));try refine Wk.v a (Wk.v b ?_))|(intro a h;try refine Wk.v a ?_))|((first|with_reducible refine q6 ?_|with_reducible refine q1 ?_);(first|refine vM ?_|refine uI ?_|refine uB ?_|refine u9 ?_|refine uQ ?_|skip);intros;rename_i h;(try (with_reducible (conv at h=>lhs;whnf)));(conv=>whnf))|((first|with_reducible refine q2 ?_|with_reducible refine q5 ?_);(first|refine vM ?_|refine uI ?_|refine uB ?_|refine u9 ?_|refine uQ ?_|skip);intros;rename_i h _;(try (with_reducible (conv at h=>lhs;whnf)));(conv=>whnf))|((with_reducible refine q4 ?_);intro _ h)|((with_reducible refine q7 ?_);intro a g h;try refine Wk.v a ?_)|(intro h)|((conv=>arg 2;whnf);(conv=>arg 3;whnf);first|with_reducible refine Wk.y ?_|refine Wk.il ?_|((with_reducible show Wk _ _ (∃_:wD,_));first|exact Wk.swJ h|exact Wk.swI h|exact Wk.CI h|exact Wk.endI h)|((with_reducible show Wk _ _ (HR _ _ _));first|refine Wk.cut h ?_ ?_|with_reducible refine Wk.g ?_|with_reducible refine Wk.go ?_)|((with_reducible show Wk _ _ (∃(_:AV) (_:List OB) (_:Option (List Nat)),_));first|refine Wk.cN h ?_|refine Wk.cB h ?_|((with_reducible refine Wk.s ?_);refine Wk.cS h ?_)|refine Wk.cS h ?_)|((with_reducible show Wk _ _ (∃(_:AV) (_:List OB),_));first|refine Wk.cE h ?_ rfl|((with_reducible refine Wk.s ?_);refine Wk.cD h ?_ (λ_=>rfl))|refine Wk.cD h ?_ (λ_=>rfl))|((with_reducible show Wk _ _ (Eu _ _ _=_/\_));refine Wk.cr ?_)|((with_reducible show Wk _ _ (FX _=_/\_));refine Wk.dr ?_)|((with_reducible show Wk _ _ ((FX _=_/\_)/\_));refine Wk.tr ?_)|((with_reducible show Wk _ _ (@Eq Nat _ _/\_));refine Wk.len ?_)|((with_reducible show Wk _ _ (@Eq AV _ _/\_));exact Wk.fin h)|((with_reducible show Wk _ _ (_=_/\_));refine Wk.and rfl ?_)|((with_reducible show Wk _ _ (_\/_));first|with_reducible refine Wk.l ?_|with_reducible refine Wk.inr ?_|with_reducible refine Wk.inl ?_)|((with_reducible show Wk _ _ (∃_,@Eq Nat _ _/\_));first|refine Wk.ex (X1 _) ?_|refine Wk.ex rfl ?_)|((with_reducible show Wk _ _ (∃_,@Eq Int (IntKind.wrap IntKind.i64 _) _/\_));first|refine Wk.ex (by assumption) ?_|refine Wk.ex (QC _) ?_|refine Wk.ex (H _) ?_|refine Wk.ex (J _) ?_|refine Wk.ex rfl ?_)|((with_reducible show Wk _ _ (∃_,@Eq Int (IntKind.wrap _ _) _/\_));first|refine Wk.ex (W6 _) ?_|refine Wk.ex (Ol _) ?_|refine Wk.ex (K _) ?_|refine Wk.ex (P _) ?_)|((with_reducible show Wk _ _ (∃_,List.getD _ _ _=_/\_));first|refine Wk.ex (by assumption) ?_|refine Wk.ex (FY (by assumption)) ?_|refine Wk.gd (f:=E.e) g ?_|refine Wk.ex rfl ?_)|((with_reducible show Wk _ _ (∃_,List.set _ _ _=_/\_));refine Wk.set h ?_)|((with_reducible show Wk _ _ (∃_,BG _ _ _=_/\_));first|refine Wk.exs (IX (ek:=D.i) JP) ?_|refine Wk.exs (IX (ek:=D.s) SC) ?_|refine Wk.exs (IX (ek:=D.u8) pM) ?_)|((with_reducible show Wk _ _ (∃_,FA _ _ _ _=_/\_));first|refine Wk.ms JP ?_ rfl rfl|refine Wk.ms SC ?_ rfl rfl|refine Wk.ms (es:=([]:List (ByteArray×Bool))) (ek:=D.s) (ev:=D.b) SC ?_ rfl rfl|refine Wk.ms (es:=([]:List (Int×List UInt8))) (ek:=D.i) (ev:=D.l 1 D.u8) JP ?_ rfl rfl)|((with_reducible show Wk _ _ (∃_,Option.getD _ _=_/\_));refine Wk.mgd h ?_ rfl)|((with_reducible show Wk _ _ (∃_,Option.isSome _=_/\_));first|refine Wk.mgs h ?_|refine Wk.ex rfl ?_)|((with_reducible show Wk _ _ (∃_,Int.fdiv _ _=_/\_));first|refine Wk.ex (mP _ _) ?_|refine Wk.ex (fN _ _) ?_|refine Wk.ex (Q _ _) ?_|refine Wk.ex (V _ _) ?_|refine Wk.ex rfl ?_)|((with_reducible show Wk _ _ (∃_,_=_/\_));refine Wk.ex rfl ?_)|((with_reducible show Wk _ _ (Ka _ _ _ _));first|refine Wk.for h rfl (by (conv=>whnf);exact wk) ?_ ?_|refine Wk.own h rfl (by (conv=>whnf);exact wk) ?_ ?_|refine Wk.whl h (by (conv=>whnf);exact wk) ?_)|((with_reducible show Wk _ _ ((0<=_/\_<_)/\_));first|refine Wk.get h ?_ (λ_=>rfl)|refine Wk.idx (by assumption) (by assumption) ?_ rfl|refine Wk.get (f:=E.e) h ?_ (λ_=>rfl)|refine Wk.gb h ?_|refine Wk.gb (f:=E.e) h ?_|refine Wk.ib (by assumption) ?_)|((with_reducible show Wk _ _ ((0<=_/\_<=_/\_<=_)/\_));first|refine Wk.par h ?_|refine Wk.par0 h ?_|refine Wk.par (f:=E.e) h ?_)|((with_reducible show Wk _ _ (((_+_)*_<=_/\_<=_)/\_));first|refine Wk.apP h ?_|refine Wk.apP (f:=E.e) h ?_)|((with_reducible show Wk _ _ ((_<=_/\_<=_)/\_));first|refine Wk.Sp h ?_|refine Wk.Sp (f:=E.e) h ?_)|((with_reducible show Wk _ _ (_≠_/\_));first|refine Wk.and (by decide) ?_|refine Wk.Ch h ?_)|((with_reducible show Wk _ _ (0<=_/\_));first|refine Wk.and (by decide) ?_|refine Wk.and (Int.natCast_nonneg _) ?_|refine Wk.Ch h ?_)|refine Wk.st (by assumption) ?_|refine Wk.se ?_|refine Wk.Cr h ?_ ?_|refine Wk.selz h ?_ ?_|exact Wk.R4 h (by assumption) (by (conv=>whnf);exact wk) rfl rfl rfl|exact Wk.endL h (by assumption) (by (conv=>whnf);exact wk)|exact Wk.swM h (by assumption) (by exact wk) rfl rfl rfl|exact Wk.endM h (by assumption) (by exact wk)|with_reducible refine Wk.e0 ?_))):A:=(k h).h
end
instance:E tx:=⟨tx.cW,1⟩
instance:E B4:=⟨B4.cW,2⟩
instance:E tF:=⟨tF.cW,7⟩
instance:E Addr:=⟨Addr.cW,3⟩
instance:E fI:=⟨fI.cW,4⟩
instance:E ss:=⟨ss.cW,6⟩
instance:E Set:=⟨Set.cW,3⟩
instance:E zu:=⟨zu.cW,1⟩
instance:E Ck:=⟨Ck.cW,2⟩
instance:E oX:=⟨oX.cW,1⟩
instance:E r8:=⟨r8.cW,2⟩
instance:E oF:=⟨oF.cW,2⟩
instance:E iX:=⟨iX.cW,3⟩
instance:E gL:=⟨gL.cW,3⟩
instance:E gH:=⟨gH.cW,1⟩
instance:E th:=⟨th.cW,1⟩
instance:E mu:=⟨mu.cW,16⟩
instance:E gT:=⟨gT.cW,18⟩
instance:E rv:=⟨rv.cW,8⟩
instance:E ur:=⟨ur.cW,1⟩
instance:E Pc:=⟨Pc.cW,1⟩
instance:E Ct:=⟨Ct.cW,1⟩
instance:E zl:=⟨zl.cW,1⟩
instance:E DA:=⟨DA.cW,22⟩
instance:E zO:=⟨zO.cW,24⟩
instance:E Open:=⟨Open.cW,1⟩
instance:E JN:=⟨JN.cW,1⟩
instance:E Er:=⟨Er.cW,1⟩
instance:E N0:=⟨N0.cW,1⟩
instance:E Mi:=⟨Mi.cW,1⟩
abbrev yb (x:I):AV:=.d (D.b x)
abbrev yi (x:Int):AV:=.d (D.i x)
abbrev yu (x:j):AV:=.d (D.u64 x)
abbrev yv (x:S):AV:=.d (D.u8 x)
abbrev ys (x:T):AV:=.d (D.s x)
def oK {wl:Prop}{f:FuncId}(fn:Func){args:List AV}{gM:List OB}{J:AV}{H:List OB}(h:bD (Rs (Wl wl) Tryz.prog tt zV U5 0 gM.length) fn args gM fun r o=>r=J∧o=H)(K:Tryz.prog.funcs[f]?=some fn:=by kernel_rfl)(P:(fn.name == "runtime.NumGoroutine")=false:=by kernel_rfl):xV (Wl wl) Tryz.prog f args gM J H:=ok fn K P h
def oKx {wl:Prop}{f:FuncId}(ex:Nat)(fn:Func){args:List AV}{gM:List OB}{J:AV}{H:List OB}(h:bD (Rs (Wl wl) Tryz.prog tt zV U5 ex gM.length) fn args gM fun r o=>r=J∧o=H)(K:Tryz.prog.funcs[f]?=some fn:=by kernel_rfl)(P:(fn.name == "runtime.NumGoroutine")=false:=by kernel_rfl):xV (Wl wl) Tryz.prog f args gM J H:=okx ex fn K P h
def cO {H:Array Oper}{e:List (List Nat×List Nat)}{K:Prop}(k:K)(h:Fl H e=true:=by kernel_rfl):Eu H 0 e=true/\K:=cOB h k
def dO {H:Array Oper}{K:Prop}(k:K)(h:GC H=true:=by kernel_rfl):FX H=true/\K:=dOB h k
abbrev yr (a b:Nat):AV:=.ref a b
abbrev yO {α:Type}(r:Nat)(f:α->D)(l:O α):AV:=.own r (Xa5 f l).length
abbrev yR {α:Type}(e s:Nat)(f:α->D)(l:O α):C OB:=some (OB.row e s (Xa5 f l) .no)
abbrev yB (l:O AV):C OB:=some (OB.box l)
abbrev y0 (l:O S):AV:=.d (D.l 1 D.u8 l)
abbrev y1 (l:O fI):AV:=.d (D.l 4 fI.cW l)
abbrev y2 (l:O r8):AV:=.d (D.l 2 r8.cW l)
abbrev y3 (l:O oF):AV:=.d (D.l 2 oF.cW l)
abbrev y4 (l:O iX):AV:=.d (D.l 3 iX.cW l)
abbrev y5 (l:O Int):AV:=.d (D.l 1 D.i l)
abbrev y6 (l:O mu):AV:=.d (D.l 16 mu.cW l)
abbrev y7 (l:O gL):AV:=.d (D.l 3 gL.cW l)
abbrev y8 (l:O gT):AV:=.d (D.l 18 gT.cW l)
abbrev y9 (l:O ss):AV:=.d (D.l 6 ss.cW l)
abbrev ra (l:O T):AV:=.d (D.l 1 D.s l)
abbrev y11 (l:O B4):AV:=.d (D.l 2 B4.cW l)
abbrev Pa (a0:Int)(a1:I)(H:j)(J:j)(K:Int)(P:Int)(Q:Int)(V:O r8)(Y:O oF)(Z:O iX):C OB:=yB [yi a0,yO 106 r8.cW V,yb a1,yu H,yu J,yi K,yi P,yi Q,yO 105 oF.cW Y,yO 104 iX.cW Z,AV.d (D.nil 3)]
abbrev zS1 (a0:O gT)(a1:Int)(H:T)(J:Int)(K:Int)(P:I)(Q:Int)(V:O Addr):C OB:=yB [AV.d (D.i a1),AV.d (D.s H),AV.d (D.i J),AV.d (D.i K),AV.d (D.l 3 Addr.cW V),AV.d (D.b P),yO 39 gT.cW a0,AV.d (D.i Q)]
abbrev TH (a0:Int)(a1:I)(P:j)(Q:j)(V:Int)(Y:Int)(Z:Int)(H:O r8)(J:O oF)(K:O iX):O (C OB):=N::N::yB gH.zv::nn 67 (yB gH.zv::N::Pa a0 a1 P Q V Y Z H J K::nn 31 (yR 208 3 iX.cW K::yR 206 2 oF.cW J::yR 176 2 r8.cW H::nn 127 ([])))
abbrev zS3 :O AV:=X::yr 1 0::X::X::AV.own 4 (Xa5 gL.cW []).length::AV.mp 24::dd 189 ([])
abbrev zS4 (a0:Int)(a1:I)(K:I)(P:I)(Q:Int)(H:O Int)(J:O B4)(V:tx):O (C OB):=yB (tx.av V)::nn 4 (yB tF.zv::yB [yi a0,yb a1,yb K,yb P,yi Q,yO 32 D.i H,yO 50 B4.cW J]::nn 25 (yR 3 1 D.i H::nn 17 (yR 153 2 B4.cW J::N::N::[])))
abbrev zS5 (a0:Int)(a1:Int)(H:I)(J:I)(K:I)(P:O gL):O AV:=X::X::yr 70 0::X::yr 72 0::dd 5 (y7 P::yi a0::yi a1::dd 11 (yb H::X::X::X::yb J::X::X::X::yb K::dd 6 ([])))
abbrev zS6 (a0:Int)(a1:Int)(H:Int)(J:Int)(K:O fI)(P:O rv)(Q:O gT):O AV:=X::X::X::yO 3 fI.cW K::dd 8 (AV.d (D.l 8 rv.cW P)::yi a0::yi a1::dd 4 (AV.d (D.l 18 gT.cW Q)::yi H::yi J::dd 48 ([])))
abbrev zS7 (a0:Int)(a1:Int)(H:O fI)(J:O rv):O AV:=X::X::X::yO 3 fI.cW H::dd 8 (AV.d (D.l 8 rv.cW J)::yi a0::yi a1::dd 55 ([]))
abbrev zS8 (a0:Int)(a1:Int)(H:O tF):O AV:=X::yr 1 0::dd 25 (AV.d (D.l 7 tF.cW H)::yi a0::yi a1::dd 77 ([]))
abbrev zS9 (a0:gH)(a1:gH):O (C OB):=N::N::yB (gH.av a0)::yB (gH.av a1)::nn 198 ([])
abbrev ui (a0:Int)(a1:Int)(H:I)(J:O gL):O AV:=X::X::yr 70 0::X::yr 72 0::dd 5 (y7 J::yi a0::yi a1::dd 22 (yb H::X::X::X::[]))
abbrev vq (a0:Int)(a1:Int)(H:O fI):O AV:=X::X::X::yr 3 0::yr 4 0::yr 5 0::yr 6 0::X::yr 8 0::dd 45 (AV.d (D.l 4 fI.cW H)::yi a0::yi a1::dd 80 ([]))
abbrev kf (a0:O fI):O (C OB):=N::N::N::yR 67 4 fI.cW a0::nn 66 ([])
abbrev dH (a0:ur):O (C OB):=N::yB (ur.av a0)::nn 105 ([])
abbrev jy (a0:O oF):O (C OB):=yR 206 2 oF.cW a0::nn 61 ([])
abbrev jb (a0:O iX):O (C OB):=yR 208 3 iX.cW a0::nn 61 ([])
abbrev sj :O AV:=yr 0 0::X::X::X::yr 5 0::yr 6 0::dd 46 ([])
abbrev yC (wl:Prop):=xV (Wl wl) Xcc
end Go.AX.Q33
end
section
namespace Go.AX.Q33
open Go Go.AX Go.Proofs Go.Proofs.YthbbpeeghmpcfaaGreatDoor
def ym (n:Int):Xdy:=if n=1 then 223 else if n=2 then 224 else if n=3 then 225 else if n=4 then 226 else if n=5 then 228 else if n=8 then 229 else if n=32 then 230 else 231
def D2f {H:Type}:Lit×DataW H->D×D
 | (.int k n,.lit (.int F m))=>(.val (.int k n),.val (.int F m))
 | _=>(D.i 0,D.i 0)
def D2r {H:Type}:Lit×DataW H->D×D
 | (.int k n,_)=>(.val (.int k n),.val (.func (.func (ym n)) #[] #[]))
 | _=>(D.i 0,D.i 0)
def Tx {W:B}{p:Prop}(h:laidMetH Xcc Rows.restartReturnsRow.laid W) :∃gb:Nat->Prop,(Wl p).gf gb W/\∀b,gb b->b<W.heap.size:=by
 obtain⟨H,_⟩:=laidMetH_iff.1 h;have e1 : (Rows.restartReturnsRow.laid.filter fun x => x.2.handleName?.isNone) = [("exchangepoint/attribute.flags", Rows.laid_exchangepoint_attribute_flags)] := by kernel_rfl
 rw[e1] at H;obtain⟨ps,⟨g0,t0,ak,f0,p0,q0,Q,a6,a7,a8,_⟩,_,_⟩:=H;obtain rfl := X22 ((show Xcc.globalNamed "exchangepoint/attribute.flags" = some 0 by kernel_rfl).symm.trans Q);obtain rfl:=X22 ((show (Xcc.globals[0]?).map (·.type)=some 258 by kernel_rfl).symm.trans a6)
 obtain⟨b0,a0,c0,aa,U,ab,ae⟩:=Yt (kd:=.i64) Tryz.underlying258 Xdv a8 D2f (λn v d m q hm F V=>by
  obtain⟨j,H,h2,_⟩:=DataW.trod_int Xdv F;simp only[X23] at h2;obtain⟨rfl,_⟩:=h2;have F:v=.int .i64 j:=by unfold Value.formed at V;rw[Xdv] at V;cases v<;>simp_all [Xe2]
  subst F
  exact⟨rfl,rfl⟩)
 obtain ⟨g1, t1, af, f1, p1, Y, ag, K, M⟩ := h.funcs (n := "exchangepoint/attribute.readers") (X16 _ (X11.2 rfl));obtain rfl := X22 ((show Xcc.globalNamed "exchangepoint/attribute.readers" = some 1 by kernel_rfl).symm.trans Y);obtain rfl:=X22 ((show (Xcc.globals[1]?).map (·.type)=some 264 by kernel_rfl).symm.trans ag);have M:DataW.trod (funcToken Xcc) Xcc W 0 (λ_=>true) true f1 264 af.toList=some (.map [(.int .i64 1,.held [101,120,99,104,97,110,103,101,112,111,105,110,116,47,97,116,116,114,105,98,117,116,101,46,114,101,97,100,79,114,105,103,105,110]),(.int .i64 2,.held [101,120,99,104,97,110,103,101,112,111,105,110,116,47,97,116,116,114,105,98,117,116,101,46,114,101,97,100,80,97,116,104]),(.int .i64 3,.held [101,120,99,104,97,110,103,101,112,111,105,110,116,47,97,116,116,114,105,98,117,116,101,46,114,101,97,100,78,101,120,116]),(.int .i64 4,.held [101,120,99,104,97,110,103,101,112,111,105,110,116,47,97,116,116,114,105,98,117,116,101,46,114,101,97,100,101,114,115,36,49]),(.int .i64 5,.held [101,120,99,104,97,110,103,101,112,111,105,110,116,47,97,116,116,114,105,98,117,116,101,46,114,101,97,100,101,114,115,36,50]),(.int .i64 8,.held [101,120,99,104,97,110,103,101,112,111,105,110,116,47,97,116,116,114,105,98,117,116,101,46,114,101,97,100,67,111,109,109,117,110,105,116,105,101,115]),(.int .i64 32,.held [101,120,99,104,97,110,103,101,112,111,105,110,116,47,97,116,116,114,105,98,117,116,101,46,114,101,97,100,76,97,114,103,101]),(.int .i64 35,.held [101,120,99,104,97,110,103,101,112,111,105,110,116,47,97,116,116,114,105,98,117,116,101,46,114,101,97,100,101,114,115,36,51])],p1):=M
 obtain⟨b1,a1,c1,ah,Z,ai,aj⟩:=Yt (kd:=.i64) Tryz.underlying264 Xdv M D2r (λn v d m q hm F V=>by
  have K:v.cells.toList=[v]:=by unfold Value.formed at V;rw[Xdg] at V;cases v<;>simp_all [Xe2]
  rw[K] at F;simp only[Xa7,Xc3,Xez,X23,Lit.int.injEq,true_and] at hm;rcases hm with ⟨rfl,rfl⟩|⟨rfl,rfl⟩|⟨rfl,rfl⟩|⟨rfl,rfl⟩|⟨rfl,rfl⟩|⟨rfl,rfl⟩|⟨rfl,rfl⟩|⟨rfl,rfl⟩
  ·obtain rfl:=func_of_trod (f0:=223) Xdg (by kernel_rfl) F;exact⟨rfl,rfl⟩
  ·obtain rfl:=func_of_trod (f0:=224) Xdg (by kernel_rfl) F;exact⟨rfl,rfl⟩
  ·obtain rfl:=func_of_trod (f0:=225) Xdg (by kernel_rfl) F;exact⟨rfl,rfl⟩
  ·obtain rfl:=func_of_trod (f0:=226) Xdg (by kernel_rfl) F;exact⟨rfl,rfl⟩
  ·obtain rfl:=func_of_trod (f0:=228) Xdg (by kernel_rfl) F;exact⟨rfl,rfl⟩
  ·obtain rfl:=func_of_trod (f0:=229) Xdg (by kernel_rfl) F;exact⟨rfl,rfl⟩
  ·obtain rfl:=func_of_trod (f0:=230) Xdg (by kernel_rfl) F;exact⟨rfl,rfl⟩
  obtain rfl:=func_of_trod (f0:=231) Xdg (by kernel_rfl) F
  exact⟨rfl,rfl⟩)
 have J :∀{g:Nat} {n:String} {cs:Array A} {v:A},Xcc.globalNamed n=some g->W.var? Xcc n=some cs->cs.toList=[v]->cellAt W g 0=some v/\g<W.heap.size:=by
  intro g n cs v hg F hc;have H:=World.var?_cell hg F 0;rw[Array.eq_one_of_toList hc] at H;have H:W.cell? ⟨g,0,none⟩=some v:=by simpa using H
  refine⟨H,?_⟩;unfold World.var? at F;rw[hg,Xby] at F;cases hh:W.heap[g]? with
  | none=>rw[hh] at F;cases F
  | some o=>exact (Xcm.1 hh).1
 obtain⟨k0,s0⟩:=J Q a7 aa;obtain⟨k1,s1⟩:=J Y K ah;refine⟨λb=>b=0\/b=1\/b=b0\/b=b1,λg es hg=>?_,λb hb=>?_⟩;rotate_left
 ·rcases hb with rfl|rfl|rfl|rfl
  ·exact s0
  ·exact s1
  ·exact (Xcm.1 U).1
  exact (Xcm.1 Z).1
 match g,hg with
 | 0,hg=>obtain rfl:BK D.i D.i Oj=es:=X22 hg;refine⟨.inl rfl,b0,a0,c0,_,.inr (.inr (.inl rfl)),k0,U,λtk x q P=>?_,WU ae⟩;refine Qp (l:=BK D.i D.i Oj) (ab.symm) ?_ (by unfold Oj BK;simp[D.i]) P;intro q P;obtain⟨z,_,rfl⟩:=Xau.1 P;exact⟨_,rfl⟩
 | 1,hg=>obtain rfl:=X22 hg;refine⟨.inr (.inl rfl),b1,a1,c1,_,.inr (.inr (.inr rfl)),k1,Z,λtk x q P=>?_,WU aj⟩;refine Qp (ai.symm) ?_ (by simp[D2r]) P;intro q P;obtain⟨z,hz,rfl⟩:=Xau.1 P;simp only[Xa7,Xc3,Xez] at hz;rcases hz with rfl|rfl|rfl|rfl|rfl|rfl|rfl|rfl<;>exact⟨_,rfl⟩
 | g+2,hg=>cases hg
end Go.AX.Q33
end
section
namespace Go.AX.Q33
open Go Go.AX
def KZ (a0:O Int):C (O Int):=
 AC (τ:=(O Int)) (λk1=>AL (σ:=(O Int)) (λv2=>k1 v2 ) (λH (Q:Int) i5 v2=>AC (τ:=(O Int)) (λk6=>AC (τ:=Int) (λk7=>Ad (σ:=Int) (λJ P=>AC (τ:=I) (λK=>if (decide (P<(v2.length:Int))) then Xx (gN v2 P) λU=>K (cond true (decide (U<Q)) false) else K false ) λV=>if V then J (AG (P+1)) else k7 P ) xv 0 ) λF=>AC (τ:=I) (λM=>if (decide (F<(v2.length:Int))) then Xx (gN v2 F) λY=>M (cond true (Y==Q) false) else M false ) λZ=>if Z then k6 v2 else Xx (Ch (0<=(0:Int)/\(0:Int)<=F/\F<=(v2.length:Int))) λ_=>Xx (gO (α:=Int) 8 [] (Xb7 (Xa0 F-Xa0 0) (Xb8 (Xa0 0) v2))) λ_=>Xx (gO (α:=Int) 8 (Xb7 (Xa0 F-Xa0 0) (Xb8 (Xa0 0) v2)) ([Q]:O Int)) λa6=>Xx (Ch (0<=F/\F<=(v2.length:Int)/\(v2.length:Int)<=(v2.length:Int))) λ_=>Xx (gO (α:=Int) 8 a6 (Xb7 (Xa0 (v2.length:Int)-Xa0 F) (Xb8 (Xa0 F) v2))) λa7=>k6 a7 ) λa8=>H a8 ) a0 0 []
 ) λaa=>
 some aa
end Go.AX.Q33
end
section
namespace Go.AX
class Tt {ρ:Type} (m:Option ρ):Prop where
 h :∃r,m=some r
def Ok {ρ:Type}(m:C ρ)(Q:ρ->Prop):Prop:=∃r,m=some r/\Q r
def Ok.ret {ρ:Type}{Q:ρ->Prop}{r:ρ}(h:Q r):Ok (some r) Q:=⟨r,rfl,h⟩
theorem Ok.of {ρ:Type}{m:C ρ}[t:Tt m]:Ok m λr=>m=some r:=by obtain⟨r,h⟩:=t.h;exact⟨r,h,h⟩
theorem Ok.tt {ρ:Type}{m:C ρ}{Q:ρ->Prop}(h:Ok m Q):Tt m:=by obtain⟨r,F,_⟩:=h;exact⟨r,F⟩
def Ok.bind {α ρ:Type}{m:C α}{f:α->C ρ}{P:α->Prop}{Q:ρ->Prop}(h:Ok m P)(k :∀a,P a->Ok (f a) Q):Ok (Xx m f) Q:=by obtain⟨a,F,H⟩:=h;rw[F];exact k a H
def Ok.join {τ ρ:Type}{m:(τ->C ρ)->C ρ}{k:τ->C ρ}{Q:ρ->Prop}(J:τ->Prop)(H :∀F,(∀v,J v->Ok (F v) Q)->Ok (m F) Q)(K :∀v,J v->Ok (k v) Q):Ok (AC m k) Q:=H k K
def Ok.Gd {α σ ρ:Type}{done:σ->C ρ}{body:(σ->C ρ)->α->Nat->σ->C ρ}{Q:ρ->Prop}{l:O α}{K:σ}(I:Nat->σ->Prop)(P:I 0 K)(U :∀s,I l.length s->Ok (done s) Q) (V :∀(next:σ->C ρ) x i s,l[i]?=some x->I i s->(∀F,I (i+1) F->Ok (next F) Q)->Ok (body next x i s) Q):Ok (AL done body l 0 K) Q:=by
 have key :∀(t:O α) (i:Nat) (s:σ),(∃p,l=p++t/\p.length=i)->I i s->Ok (AL done body t i s) Q:=by
  intro t;induction t with
  | nil=>intro i s ⟨p,H,J⟩ M;exact U s (by rw[H];simpa[J] using M)
  | cons x t Y=>intro i s ⟨p,H,J⟩ M;exact V _ x i s (by rw[H,<- J];simp) M λF Z=>Y (i+1) F ⟨p++[x],by simp[H],by simp[J]⟩ Z
 exact key l 0 K ⟨[],rfl,rfl⟩ P
def Ok.forI {α σ ρ:Type}{done:σ->C ρ}{body:(σ->C ρ)->α->Nat->σ->C ρ}{Q:ρ->Prop}{l:O α}{F:σ}(I:Nat->σ->Prop)(K:I 0 F)(M :∀s,I l.length s->Ok (done s) Q) (P :∀(next:σ->C ρ) x i s,i<l.length->x∈l->I i s->(∀H,I (i+1) H->Ok (next H) Q)->Ok (body next x i s) Q):Ok (AL done body l 0 F) Q:=
 .Gd I K M λn x i s J=>P n x i s (X13.1 J).1 (Xbz J)
def Ok.for_ {α σ ρ:Type}{done:σ->C ρ}{body:(σ->C ρ)->α->Nat->σ->C ρ}{Q:ρ->Prop}{l:O α}{H:σ}(J :∀s,Ok (done s) Q) (K :∀(next:σ->C ρ) x i s,i<l.length->x∈l->(∀F,Ok (next F) Q)->Ok (body next x i s) Q):Ok (AL done body l 0 H) Q:=
 .forI (λ_ _=>True) trivial (λs _=>J s) λn x i s M P _ U=>K n x i s M P λF=>U F trivial
def Ok.Dr {σ ρ:Type}{body:(σ->C ρ)->σ->C ρ}{n:Nat}{s:σ}{Q:ρ->Prop}(I:σ->Prop)(F:σ->Nat)(J:I s)(K:F s<n) (M :∀(next:σ->C ρ) s,I s->(∀H,I H->F H<F s->Ok (next H) Q)->Ok (body next s) Q):Ok (Ad body n s) Q:=
 WH I F Q (λnext s h k=>M next s h k) n s J K
def Ok.ite {ρ:Type}{p:Prop}[Decidable p]{x y:C ρ}{Q:ρ->Prop}(F:p->Ok x Q)(H:¬ p->Ok y Q):Ok (if p then x else y) Q:=by
 split
 ·exact F ‹_›
 exact H ‹_›
def Ok.gN {α:Type}{l:O α}{i:Int}(h:0<=i/\i<l.length):Ok (gN l i) λx=>x∈l/\gN l i=some x:=by
 have F:i.toNat<l.length:=by omega
 have H:Go.AX.gN l i=some l[i.toNat]:=by unfold Go.AX.gN;rw[Xa2 h];simp[F]
 exact⟨_,H,Xad F,H⟩
def Ok.Bu {α:Type}{l:O α}{i:Int}{x:α}(h:0<=i/\i<l.length):Ok (Bu l i x) λF=>F=l.set i.toNat x/\F.length=l.length:=by refine⟨_,?_,rfl,by simp⟩;unfold Go.AX.Bu;rw[Xa2 h]
def Ok.gO {α:Type}{b:Nat}{l m:O α}(F:Xeo b 65536=true)(h:l.length+m.length<=1000000000):Ok (gO b l m) λH=>H=l++m:=⟨_,AD F h,rfl⟩
def Ok.part {α:Type}{l:O α}{a b:Int}(h:0<=a/\a<=b/\b<=l.length):Ok (part l a b) λF=>F=(l.drop a.toNat).take (b.toNat-a.toNat)/\(F.length:Int)=b-a:=by refine⟨_,?_,rfl,by simp;omega⟩;unfold Go.AX.part;rw[Xa2 h]
def Ok.Ch {p:Prop}[Decidable p](h:p):Ok (Ch p) λ_=>True:=by refine⟨(),?_,trivial⟩;unfold Go.AX.Ch;rw[Xa2 h]
theorem Tt.Bx {ρ:Type}{m:Option ρ} (h:Ok m λ_=>True:=by
  repeat' (first
   | exact Ok.ret trivial
   | assumption
   | (refine Ok.bind Ok.of ?_;intros)
   | (refine Ok.ite ?_ ?_<;>intros)
   | (refine Ok.join (λ_=>True) ?_ ?_<;>intros)
   | (refine Ok.for_ ?_ ?_<;>intros)
   | (refine Ok.bind (Ok.gN ?_) ?_<;>intros)
   | (refine Ok.bind (Ok.Ch ?_) ?_<;>intros)
   | exact ‹∀v,True->Ok _ _› _ trivial
   | exact ‹∀v,Ok _ _› _
   | solve_by_elim
   | (constructor<;>first|omega|(simp_all;done)|(simp_all;omega))
   | omega
   | decide)):Tt m:=h.tt
def Ok.q {ρ:Type}{m:Option ρ}{Q:ρ->Prop} (h:Ok m Q:=by
  repeat' (first
   | assumption
   | refine Ok.ret ?_
   | exact trivial
   | (refine Ok.bind Ok.of ?_;intros)
   | (refine Ok.ite ?_ ?_<;>intros)
   | (refine Ok.bind (Ok.Ch ?_) ?_<;>intros)
   | (refine Ok.bind (Ok.gN ?_) ?_<;>intros)
   | (refine Ok.bind (Ok.Bu ?_) ?_<;>intros)
   | (refine Ok.bind (Ok.gO (by decide) ?_) ?_<;>intros)
   | refine ‹∀v,_->_->Ok _ _› _ ?_ ?_
   | refine ‹∀v,_->Ok _ _› _ ?_
   | exact ‹∀v,Ok _ _› _
   | (refine Ok.join (τ:=Bool) (λ_=>True) ?_ ?_<;>intros)
   | (refine Ok.join (τ:=Unit) (λ_=>True) ?_ ?_<;>intros)
   | omega
   | solve_by_elim
   | (simp_all;done)
   | (simp_all;omega)
   | (simp only[X2,X3,X10,X18,decide_eq_true_eq,beq_iff_eq,bne_iff_ne,Bool.not_eq_true'] at *;(try subst_vars);(try simp only[X2,X3,X10]);omega))):Ok m Q:=h
end Go.AX
end
section
namespace Go.AX
def Rm {α ρ:Type}{g:α->I}{body:(Unit->C ρ)->α->Nat->Unit->C ρ}{K:Unit->C ρ}{r0:C ρ} : ∀{l:O α} {i:Nat},(∀next x i,x∈l->body next x i ()=cond (g x) (next ()) r0)->AL K body l i ()=cond (l.all g) (K ()) r0
 | [],_,_=>rfl
 | x::t,i,h=>by
  show body (λs=>AL K body t (i+1) s) x i ()=_;rw[h _ x i (by simp),Xd5];cases g x
  ·rfl
  exact Rm λnext y j F=>h next y j (X16 _ F)
def wE {α:Type}{f:α->C I}{q:α->I} :∀{l:O α} {i:Nat},(∀x∈l,f x=some (q x))-> AL (λ_=>some (-1)) (λnext x i _=>Xx (f x) λv=>if v then some (i:Int) else next ()) l i ()=some (match l.findIdx? q with|some j=>((i+j:Nat):Int)|none=>-1)
 | [],_,_=>rfl
 | x::t,i,h=>by
  show Xx (f x) (λv=>if v then some (i:Int) else AL (λ_=>some (-1)) _ t (i+1) ())=_;rw[h x (by simp),AA,List.findIdx?_cons];by_cases F:q x=true
  ·rw[Xa2 F,Xa2 F];simp
  rw[Xa1 F,Xa1 F,wE λy H=>h y (X16 _ H)];cases t.findIdx? q with
  | none=>rfl
  | some j=>simp only[Xcb];rw[show i+1+j=i+(j+1) by omega]
def tJ {α:Type}{f:α->C I}{q:α->I}{l:O α}(h :∀x∈l,f x=some (q x)) : (Xx (AC (τ:=Unit) (λH=>AL (λ_=>H ()) (λnext x i _=>Xx (f x) λv=>if v then some (i:Int) else next ()) l 0 ()) λ_=>some (-1)) λv1=>some (decide (v1≥0)))=some (l.any q):=by
 rw[AB,wE h,AA];congr 1;cases F:l.findIdx? q with
 | none=>
  have:l.any q=false:=by rw[List.findIdx?_eq_none_iff] at F;simp only[List.any_eq_false];intro x J;simp[F x J]
  rw[this];rfl
 | some j=>have M:=Xcx.1 F;obtain⟨P,Q,_⟩:=M;have:l.any q=true:=Xeg.2 ⟨_,Xad P,Q⟩;rw[this];simp
def eqR {α:Type}[DecidableEq α]{a b:O α}{e:α->α->I}(P :∀x y,e x y=!decide (x=y)) : (if ((a.length:Int) !=(b.length:Int)) then some false else AC (τ:=Unit) (λQ=>AL (λ_=>Q ()) (λnext x i _=>Xx (gN b (i:Int)) λv=>if e v x then some false else next ()) a 0 ()) λ_=>some true)=some (decide (a=b)):=by
 by_cases M:a.length=b.length
 ·rw[Xa1 (by simp[M]),AB];have key :∀(t:O α) (i:Nat),i+t.length=b.length->AL (λ_=>some true) (λnext x i _=>Xx (gN b (i:Int)) λv=>if e v x then some false else next ()) t i ()=some (decide (t=b.drop i)):=by
   intro t;induction t with
   | nil=>intro i H;simp only[X10,Xcy] at H;rw[H,List.drop_length];rfl
   | cons x t U=>
    intro i H;simp only[X3] at H;have F:i<b.length:=by omega
    show Xx (gN b (i:Int)) (λv=>if e v x then some false else AL (λ_=>some true) _ t (i+1) ())=_;have Y:b.drop i=b[i]::b.drop (i+1):=Xbt F;rw[Ae F,AA,U (i+1) (by omega),Y,P];generalize b[i]=y;generalize b.drop (i+1)=u;by_cases J:y=x
    ·subst J;simp
    simp[J,Ne.symm J]
  rw[key a 0 (by omega),Xer]
 rw[Xa2 (by simp;omega)];have:¬ a=b:=by rintro rfl;exact M rfl
 rw[Xa9 this]
def uT (a b:T):(a.toList==b.toList)=decide (a=b):=by
 have h:a.toList=b.toList↔a=b:=by
  rw[Xen,Xen];constructor
  ·intro h;have F:a.data=b.data:=Array.toList_inj.1 h;cases a;cases b;simp_all
  rintro rfl;rfl
 rw[X25,Xbh,Xy,h]
def XM {a b:T}(h:(a==b)=true):a=b:=(Go.MapKept.bytes_beq a b).1 h
def uW {a:T}:(a==a)=true:=(Go.MapKept.bytes_beq a a).2 rfl
instance:LawfulBEq T:={ eq_of_beq:=XM,rfl:=uW }
section
variable {K V:Type} [BEq K] [LawfulBEq K]
def Ay (l:O (K×V))(k:K)(v:V)(F:K):A1 (A3 l k v) F=if F==k then some v else A1 l F:=by
 induction l with
 | nil=>unfold A3;simp only[A1]
 | cons p l J=>
  unfold A3;by_cases H:(k==p.1)=true
  ·rw[Xa2 H];have:=eq_of_beq H;simp only[A1];by_cases hk:(F==k)=true
   ·rw[Xa2 hk,Xa2 hk]
   rw[Xa1 hk,Xa1 hk,Xa1 (by rw[<- this];exact hk)]
  rw[Xa1 H];simp only[A1,J];by_cases hk:(F==k)=true
  ·have:=eq_of_beq hk;subst this;rw[Xa1 H,Xa2 hk,Xa2 hk]
  rw[Xa1 hk,Xa1 hk]
def Vl {l:O (K×V)}{k:K}{v:V}(h:A1 l k=some v):(k,v)∈l:=by
 induction l with
 | nil=>simp[A1] at h
 | cons p l F=>
  simp only[A1] at h;split at h
  ·rename_i H;have:=eq_of_beq H;simp only[X21] at h;subst h this;simp
  exact X16 _ (F h)
def kQ {l:O (K×V)}{k:K}:A1 l k=none ↔∀p∈l,p.1≠k:=by
 induction l with
 | nil=>simp[A1]
 | cons p l H=>
  simp only[A1,Xa7,forall_eq_or_imp];by_cases F:(k==p.1)=true
  ·rw[Xa2 F];have:=eq_of_beq F;simp[this]
  rw[Xa1 F,H];have:p.1≠k:=λe=>F (by rw[e];exact Xcg k);simp[this]
def jK {l:O (K×V)}{k:K}:(∃v,A1 l k=some v)↔k∈l.map (·.1):=by
 constructor
 ·rintro⟨v,h⟩;exact Xau.2 ⟨_,Vl h,rfl⟩
 intro h;obtain⟨p,F,rfl⟩:=Xau.1 h;cases hg:A1 l p.1 with
 | none=>exact absurd rfl (kQ.1 hg p F)
 | some v=>exact⟨v,rfl⟩
def P1 (l:O (K×V))(k:K)(v:V):(A3 l k v).map (·.1)=if k∈l.map (·.1) then l.map (·.1) else l.map (·.1)++[k]:=by
 induction l with
 | nil=>simp[A3]
 | cons p l J=>
  unfold A3;by_cases F:(k==p.1)=true
  ·rw[Xa2 F];have:=eq_of_beq F;simp[this]
  rw[Xa1 F,Xbk,J];have H:¬ k=p.1:=λe=>F (by rw[e];exact Xcg _);simp only[Xbk,Xa7,H,false_or];split
  ·rfl
  simp
def eP {l:O (K×V)}{k:K}{v:V}(h:(l.map (·.1)).Nodup):((A3 l k v).map (·.1)).Nodup:=by
 rw[P1];split
 ·exact h
 rename_i hk;rw[Xdi];exact⟨h,by simp,λa H b F e=>by simp at F;subst F;subst e;exact hk H⟩
def Sv {l:O (K×V)}{k:K}{v:V}{x:K}:x∈(A3 l k v).map (·.1)↔x∈l.map (·.1)\/x=k:=by
 rw[P1];split
 ·rename_i hk;constructor
  ·exact .inl
  rintro (h|rfl)
  ·exact h
  exact hk
 simp
end
def B7 {α:Type}(p:α->I)(l:O α):(l.takeWhile p).length<=l.length:=(List.takeWhile_prefix p).length_le
def PP {α:Type}{p:α->I} :∀{l:O α} {k:Nat} (F:k<l.length),k<=(l.takeWhile p).length->(k<(l.takeWhile p).length↔p l[k]=true)
 | [],_,F,_=>by simp at F
 | x::t,k,F,h=>by
  rw[List.takeWhile_cons] at h⊢;by_cases H:p x=true
  ·rw[Xa2 H] at h⊢;cases k with
   | zero=>simp[H]
   | succ k=>simpa using PP (p:=p) (l:=t) (k:=k) (by simpa using F) (by simpa using h)
  rw[Xa1 H] at h⊢;have:k=0:=by simpa using h
  subst this;simp[H]
def nu {α ρ:Type}{l:O α}{p:α->I}(g:α->(I->C ρ)->C ρ){K:Int->C ρ}(P:l.length<=1000000000000)(hg :∀x∈l,∀k,g x k=k (p x)) : AC (λJ=>Ad (λnext v=>AC (λH=>if decide (v<(l.length:Int)) then Xx (gN l v) λx=>g x H else H false) (λc=>if c=true then next (AG (v+1)) else J v)) xv 0) K=K ((l.takeWhile p).length:Int):=by
 have Q:=B7 p l;rw[AB,Bq (λv:Int=>0<=v/\v<=((l.takeWhile p).length:Int)) (λv=>(l.length-v).toNat) (λ_=>K ((l.takeWhile p).length:Int)) ?_ xv 0 (by omega) (BE (by omega))];intro next v U M
 obtain⟨k,rfl⟩ :∃k:Nat,v=k:=⟨v.toNat,by omega⟩;rw[AB];by_cases hk:k<l.length
 ·rw[Xa2 (by simpa using hk),Ae hk,AA,hg _ (Xad hk)];have h:=PP (p:=p) hk (by omega);by_cases F:p l[k]=true
  ·rw[Xa2 F,AK (by omega)];have:=h.2 F;exact M _ (by omega) (by omega)
  rw[Xa1 F];have:¬ k<(l.takeWhile p).length:=λq=>F (h.1 q);have:k=(l.takeWhile p).length:=by omega
  rw[this]
 rw[Xa1 (by simpa using hk)];have:k=(l.takeWhile p).length:=by omega
 subst this;rfl
def M3 {α:Type}[DecidableEq α] :∀{l m:O α},l.Nodup->(∀x∈l,x∈m)->l.length<=m.length
 | [],_,_,_=>Xef _
 | x::t,m,h,F=>by obtain⟨M,P⟩:=List.nodup_cons.1 h;have H:=F x (by simp);have:=M3 (m:=m.erase x) P λy J=>(List.mem_erase_of_ne (λe=>M (by rw[<- e];exact J))).2 (F y (X16 _ J));rw[List.length_erase_of_mem H] at this;have:0<m.length:=List.length_pos_of_mem H;simp only[X3];omega
def KN {α:Type}{lt:α->α->Prop}(F :∀a,¬ lt a a)(H :∀a b c,lt a b->lt b c->lt a c) :∀{l m:O α},l.Pairwise lt->m.Pairwise lt->(∀x,x∈l↔x∈m)->l=m
 | [],[],_,_,_=>rfl
 | [],y::m,_,_,h=>by have:=(h y).2 (by simp);simp at this
 | x::l,[],_,_,h=>by have:=(h x).1 (by simp);simp at this
 | x::l,y::m,h1,Q,h=>by
  obtain⟨a1,U⟩:=Xab.1 h1;obtain⟨b1,b2⟩:=Xab.1 Q;have M:x=y:=by
   rcases Xa7.1 ((h x).1 (by simp)) with e|e
   ·exact e
   rcases Xa7.1 ((h y).2 (by simp)) with P|P
   ·exact P.symm
   exact absurd (H _ _ _ (a1 y P) (b1 x e)) (F x)
  subst M;congr 1;refine KN F H U b2 λz=>?_;constructor
  ·intro J;rcases Xa7.1 ((h z).1 (X16 _ J)) with e|e
   ·subst e;exact absurd (a1 z J) (F z)
   exact e
  intro J;rcases Xa7.1 ((h z).2 (X16 _ J)) with e|e
  ·subst e;exact absurd (b1 z J) (F z)
  exact e
def G7 {α:Type}(lt:α->α->I)(l:O α)(x:α):O α:=l.takeWhile (lt · x)++x::l.dropWhile (lt · x)
def D5 {α:Type}{lt:α->α->I}{l:O α}{x y:α}:y∈G7 lt l x↔y∈l\/y=x:=by
 unfold G7;have:y∈l↔y∈l.takeWhile (lt · x)\/y∈l.dropWhile (lt · x):=by rw[<- X20,Xbn]
 rw[this,X20,Xa7];constructor
 ·rintro (h|h|h)
  ·exact .inl (.inl h)
  ·exact .inr h
  exact .inl (.inr h)
 rintro ((h|h)|h)
 ·exact .inl h
 ·exact .inr (.inr h)
 exact .inr (.inl h)
def G0 {α:Type}(lt:α->α->I)(l:O α)(x:α):(G7 lt l x).length=l.length+1:=by unfold G7;have:=Xap List.length (Xbn (p:=(lt · x)) (l:=l));simp only[X2,X3] at this⊢;omega
def Ja {α:Type}(p:α->I){l:O α}{x:α}(h:x∈l.takeWhile p):p x=true:=by
 induction l with
 | nil=>simp at h
 | cons y t F=>
  rw[List.takeWhile_cons] at h;split at h
  ·rcases Xa7.1 h with rfl|h
   ·assumption
   exact F h
  simp at h
def H7 {α:Type}{lt:α->α->I}(M :∀a b c,lt a b=true->lt b c=true->lt a c=true)(H :∀a b,lt a b=false->a=b\/lt b a=true){l:O α}{x:α}(h:l.Pairwise λa b=>lt a b=true)(Z:x∉l) : (G7 lt l x).Pairwise λa b=>lt a b=true:=by
 have h0:=h;rw[<- Xbn (p:=(lt · x)) (l:=l),Xbj] at h;obtain⟨h1,P,h3⟩:=h;have hd :∀b∈l.dropWhile (lt · x),lt x b=true:=by
  cases Q:l.dropWhile (lt · x) with
  | nil=>intro b F;simp at F
  | cons y t=>
   have hy:lt y x=false:=by have:=List.head?_dropWhile_not (lt · x) l;rw[Q] at this;simpa using this
   have U:y∈l:=by
    have:y∈l.dropWhile (lt · x):=by rw[Q];simp
    exact List.dropWhile_subset _ this
   have J:lt x y=true:=by
    rcases H _ _ hy with e|e
    ·subst e;exact absurd U Z
    exact e
   rw[Q] at P;intro b F;rcases Xa7.1 F with rfl|F
   ·exact J
   exact M _ _ _ J ((Xab.1 P).1 b F)
 unfold G7;rw[Xbj];refine⟨h1,Xab.2 ⟨hd,P⟩,λa Y b F=>?_⟩;rcases Xa7.1 F with e|F
 ·rw[e];exact Ja (lt · x) Y
 exact h3 a Y b F
def C1 {α:Type}(p:α->I)(l:O α):l.take (l.takeWhile p).length=l.takeWhile p/\l.drop (l.takeWhile p).length=l.dropWhile p:=by
 have h:=Xbn (p:=p) (l:=l);constructor
 ·conv=>lhs;arg 2;rw[<- h]
  rw[List.take_left'];rfl
 conv=>lhs;arg 2;rw[<- h]
 rw[List.drop_left'];rfl
end Go.AX
end
