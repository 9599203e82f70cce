/-
  Texts of one proof, packed.
-/
import Derived.Test.YtgbncopbacigiaaGreatDoorD14
import Derived.Test.YtgbncopbacigiaaGreatDoorD15
import Derived.Test.YtgbncopbacigiaaGreatDoorD16
import Derived.LaidSub
import Derived.MapKept
import Derived.Test.YtgbncopbacigiaaGreatDoorRows
set_option linter.all false
set_option maxRecDepth 100000
set_option maxHeartbeats 4000000
open List renaming length_map→X10,length_append→X11,length_cons→X12,length_nil→X13,getElem?_eq_some_iff→X16,length_drop→X17,length_take→X18,mem_cons_of_mem→X19,length_replicate→X20,length_set→X21,mem_append→X23
open Option.some renaming injEq→X24,inj→X25
open Prod.mk renaming injEq→X26
open Bool renaming eq_iff_iff→X28
open Option renaming bind→Xd
open List renaming map→Wr
open BitVec renaming ofInt→Wv
open Go renaming FuncId→Xcx
open Nat renaming beq→Xa6,ble→Xdi
open Go.Proofs.Tryz renaming prog→Xc9
open Go.ByteArray renaming toList_eq→Xd8
open Go.Value renaming cells→Xdj
section
namespace Go.AX.Q29
open Go Go.AX Go.Proofs
def s9:Xcx->O I:=λf=>(match Xa6 f 30 with|true=>[true]|false=>(match Xa6 f 285 with|true=>[true,false,true]|false=>(match Xa6 f 320 with|true=>[true]|false=>(match Xa6 f 287 with|true=>[true]|false=>(match Xa6 f 59 with|true=>[true]|false=>(match Xa6 f 28 with|true=>[true]|false=>[]))))))
def RZ:Xcx->I:=λf=>false
def oR:Nat->C (O (D×D)):=λg=>(match Xa6 g 0 with|true=>some (BS D.i D.i Y3)|false=>none)
abbrev Wl (p:Prop):WL:=⟨p,oR⟩
def ok {wl:Prop}{f:Xcx}(fn:Func){args:O AV}{gF:O OB}{J:AV}{H:O OB} (K : Xc9.funcs[f]? = some fn) (P : (fn.name == "runtime.NumGoroutine") = false) (h : XC (vo (Wl wl) Xc9 tt s9 RZ 0 gF.length) fn args gF fun r o => r = J ∧ o = H) : Bj (Wl wl) Xc9 f args gF J H :=
  lL cT (by kernel_rfl) s9 RZ 0 K P h
def z7 {wl:Prop}{f:Xcx}(ex:Nat)(fn:Func){args:O AV}{gF:O OB}{J:AV}{H:O OB} (K : Xc9.funcs[f]? = some fn) (P : (fn.name == "runtime.NumGoroutine") = false) (h : XC (vo (Wl wl) Xc9 tt s9 RZ ex gF.length) fn args gF fun r o => r = J ∧ o = H) : Bj (Wl wl) Xc9 f args gF J H :=
  lL cT (by kernel_rfl) s9 RZ ex K P h
def inl {wl:Prop}{f:Xcx}(fn:Func)(np:Nat){args:O AV}{ob:O (C OB)}{K:AV->O (C OB)->Prop} (H : Xc9.funcs[f]? = some fn) (J : (fn.name == "runtime.NumGoroutine") = false) (h : ip (vo (Wl wl) Xc9 tt s9 RZ 0 np) fn args ob K) : Wa (Wl wl) Xc9 f args ob K :=
  lZ cT (by kernel_rfl) s9 RZ np H J h
class CK {α:Type} (F:Option α) (f:outParam FuncId) (ag:outParam (List AV)) (os:outParam (List OB)) (c:outParam (α->AV)) (o:outParam (α->List OB)):Prop where
  ok :∀{wl:Prop} {v:α},F=some v->Bj (Wl wl) Tryz.prog f ag os (c v) (o v)
section
variable {U:r9} {p:Pl} {α ρ:Type} {F:C α} {f:FuncId} {ag:O AV} {os:O OB} {c:α->AV} {o:α->O OB} {wl:Prop} {k:α->C ρ} {r:ρ} {M:AV->O OB->C (O Nat)->Prop} {M2:AV->O OB->Prop} {L:Nat} {B:Prop}
def Wk.il {fn : Func}{n : Nat}{args : List AV}{ob : List (Option OB)}{K : AV → List (Option OB) → Prop}(k : Wk U p (ip (vo (Wl wl) Tryz.prog tt s9 RZ 0 n) fn args ob K))(H : Tryz.prog.funcs[f]? = some fn := by kernel_rfl)(J : (fn.name == "runtime.NumGoroutine") = false := by kernel_rfl) : Wk U (.i fn n p) (Wa (Wl wl) Tryz.prog f args ob K) := ⟨inl fn n H J k.h⟩
theorem Wf {F : Option α}(ex : Nat)(fn : Func)(k : ∀ {wl : Prop} {v : α}, F = some v → XC (vo (Wl wl) Tryz.prog tt s9 RZ ex os.length) fn ag os fun r x => r = c v ∧ x = o v)(H : Tryz.prog.funcs[f]? = some fn := by kernel_rfl)(J : (fn.name == "runtime.NumGoroutine") = false := by kernel_rfl) : CK F f ag os c o := ⟨fun h => z7 ex fn H J (k h)⟩
theorem Wk.cS [i:CK F f ag os c o](h:Xd F k=some r)(n:Q3 (∀v,k v=some r->Wk U p (M (c v) (o v) (some [])))):Wk U p (∃H gF b,Bj (Wl wl) Xc9 f ag os H gF/\M H gF b):=⟨B1 h (λ_=>i.ok) λv e=>(n v e).h⟩
theorem Wk.cN {l:O Nat}[i:CK F f ag os c o](h:Xd F k=some r)(n:Q3 (∀v,k v=some r->Wk U p (M (c v) (o v) (some l)))):Wk U (.n l p) (∃H gF b,Bj (Wl wl) Xc9 f ag os H gF/\M H gF b):=⟨QL l h (λ_=>i.ok) λv e=>(n v e).h⟩
theorem Wk.cB [i:CK F f ag os c o](h:Xd F k=some r)(n:Q3 (∀v,k v=some r->Wk U p (M (c v) (o v) none))):Wk U (.m p) (∃H gF b,Bj (Wl wl) Xc9 f ag os H gF/\M H gF b):=⟨ky h (λ_=>i.ok) λv e=>(n v e).h⟩
theorem Wk.cD [i:CK F f ag os c o](h:Xd F k=some r)(n:Q3 (∀v,k v=some r->Wk U p (M2 (c v) (o v))))(e :∀v,(o v).length=L):Wk U p (∃H gF,Bj (Wl wl) Xc9 f ag os H gF/\(gF.length=L\/B)/\M2 H gF):=⟨IZ h (λ_=>i.ok) e λv e=>(n v e).h⟩
theorem Wk.cE {ob:O (C OB)}{self:Nat}{L:O OB->Prop}[i:CK F f ag os c o](h:Xd F k=some r)(n:Q3 (∀v,k v=some r->Wk U p (M2 (c v) (o v))))(e:ob[self]?=some none):Wk U (.m p) (∃H gF,Bj (Wl wl) Xc9 f ag os H gF/\(L gF\/ob[self]?=some none)/\M2 H gF):=⟨lR h (λ_=>i.ok) e λv e=>(n v e).h⟩
def Wg {A:Prop}{a:Option ρ}(p:Pl)(h:a=some r) (k:a=some r->Wk ⟨[],[]⟩ p A:=by
 intro h;(try (with_reducible (conv at h=>lhs;whnf)));repeat' (first|((with_reducible refine q3 ?_);first|(refine mz ?_;intro a b c d e x h;(try (with_reducible (conv at h=>lhs;whnf)));try refine Wk.v a (Wk.v b (Wk.v c (Wk.v d (Wk.v e (Wk.v x ?_))))))|(refine ln ?_;intro a b c d e h;(try (with_reducible (conv at h=>lhs;whnf)));try refine Wk.v a (Wk.v b (Wk.v c (Wk.v d (Wk.v e ?_)))))|(refine lh ?_;intro a b c d h;(try (with_reducible (conv at h=>lhs;whnf)));try refine Wk.v a (Wk.v b (Wk.v c (Wk.v d ?_))))|(refine mc ?_;intro a b c h;(try (with_reducible (conv at h=>lhs;whnf)));try refine Wk.v a (Wk.v b (Wk.v c ?_)))|(refine lv ?_;intro a b h;(try (with_reducible (conv at h=>lhs;whnf)));try refine Wk.v a (Wk.v b ?_))|(intro a h;try refine Wk.v a ?_))|((first|with_reducible refine q6 ?_|with_reducible refine q1 ?_);(first|refine mz ?_|refine ln ?_|refine lh ?_|refine mc ?_|refine lv ?_|skip);intros;rename_i h;(try (with_reducible (conv at h=>lhs;whnf)));(conv=>whnf))|((first|with_reducible refine q2 ?_|with_reducible refine q5 ?_);(first|refine mz ?_|refine ln ?_|refine lh ?_|refine mc ?_|refine lv ?_|skip);intros;rename_i h _;(try (with_reducible (conv at h=>lhs;whnf)));(conv=>whnf))|((with_reducible refine q4 ?_);intro _ h)|((with_reducible refine q7 ?_);intro a g h;try refine Wk.v a ?_)|(intro h)|((conv=>arg 2;whnf);(conv=>arg 3;whnf);first|with_reducible refine Wk.y ?_|refine Wk.il ?_|((with_reducible show Wk _ _ (∃_:r9,_));first|exact Wk.zg h|exact Wk.zq h|exact Wk.sj h|exact Wk.yh h)|((with_reducible show Wk _ _ (tL _ _ _));first|refine Wk.cut h ?_ ?_|with_reducible refine Wk.g ?_|with_reducible refine Wk.go ?_)|((with_reducible show Wk _ _ (∃(_:AV) (_:List OB) (_:Option (List Nat)),_));first|refine Wk.cN h ?_|refine Wk.cB h ?_|((with_reducible refine Wk.s ?_);refine Wk.cS h ?_)|refine Wk.cS h ?_)|((with_reducible show Wk _ _ (∃(_:AV) (_:List OB),_));first|refine Wk.cE h ?_ rfl|((with_reducible refine Wk.s ?_);refine Wk.cD h ?_ (λ_=>rfl))|refine Wk.cD h ?_ (λ_=>rfl))|((with_reducible show Wk _ _ (EF _ _ _=_/\_));refine Wk.cr ?_)|((with_reducible show Wk _ _ (Ef _=_/\_));refine Wk.dr ?_)|((with_reducible show Wk _ _ ((Ef _=_/\_)/\_));refine Wk.tr ?_)|((with_reducible show Wk _ _ (@Eq Nat _ _/\_));refine Wk.len ?_)|((with_reducible show Wk _ _ (@Eq AV _ _/\_));exact Wk.fin h)|((with_reducible show Wk _ _ (_=_/\_));refine Wk.and rfl ?_)|((with_reducible show Wk _ _ (_\/_));first|with_reducible refine Wk.l ?_|with_reducible refine Wk.inr ?_|with_reducible refine Wk.inl ?_)|((with_reducible show Wk _ _ (∃_,@Eq Nat _ _/\_));first|refine Wk.ex (X10 _) ?_|refine Wk.ex rfl ?_)|((with_reducible show Wk _ _ (∃_,@Eq Int (IntKind.wrap IntKind.i64 _) _/\_));first|refine Wk.ex (by assumption) ?_|refine Wk.ex (Z7 _) ?_|refine Wk.ex (Xa _) ?_|refine Wk.ex (XX _) ?_|refine Wk.ex rfl ?_)|((with_reducible show Wk _ _ (∃_,@Eq Int (IntKind.wrap _ _) _/\_));first|refine Wk.ex (Tj _) ?_|refine Wk.ex (MS _) ?_|refine Wk.ex (gz _) ?_|refine Wk.ex (d4 _) ?_)|((with_reducible show Wk _ _ (∃_,List.getD _ _ _=_/\_));first|refine Wk.ex (by assumption) ?_|refine Wk.ex (Nk (by assumption)) ?_|refine Wk.gd (f:=E.e) g ?_|refine Wk.ex rfl ?_)|((with_reducible show Wk _ _ (∃_,List.set _ _ _=_/\_));refine Wk.set h ?_)|((with_reducible show Wk _ _ (∃_,BU _ _ _=_/\_));first|refine Wk.yD (HD (ek:=D.i) H8) ?_|refine Wk.yD (HD (ek:=D.s) PD) ?_|refine Wk.yD (HD (ek:=D.u8) gY) ?_)|((with_reducible show Wk _ _ (∃_,ER _ _ _ _=_/\_));first|refine Wk.ms H8 ?_ rfl rfl|refine Wk.ms PD ?_ rfl rfl|refine Wk.ms (es:=([]:List (ByteArray×Bool))) (ek:=D.s) (ev:=D.b) PD ?_ rfl rfl|refine Wk.ms (es:=([]:List (Int×List UInt8))) (ek:=D.i) (ev:=D.l 1 D.u8) H8 ?_ rfl rfl)|((with_reducible show Wk _ _ (∃_,Option.getD _ _=_/\_));refine Wk.zt h ?_ rfl)|((with_reducible show Wk _ _ (∃_,Option.isSome _=_/\_));first|refine Wk.zj h ?_|refine Wk.ex rfl ?_)|((with_reducible show Wk _ _ (∃_,Int.fdiv _ _=_/\_));first|refine Wk.ex (dt _ _) ?_|refine Wk.ex (YX _ _) ?_|refine Wk.ex (jZ _ _) ?_|refine Wk.ex (ir _ _) ?_|refine Wk.ex rfl ?_)|((with_reducible show Wk _ _ (∃_,_=_/\_));refine Wk.ex rfl ?_)|((with_reducible show Wk _ _ (tP _ _ _ _));first|refine Wk.for h rfl (by (conv=>whnf);exact wk) ?_ ?_|refine Wk.own h rfl (by (conv=>whnf);exact wk) ?_ ?_|refine Wk.zx h (by (conv=>whnf);exact wk) ?_)|((with_reducible show Wk _ _ ((0<=_/\_<_)/\_));first|refine Wk.get h ?_ (λ_=>rfl)|refine Wk.idx (by assumption) (by assumption) ?_ rfl|refine Wk.get (f:=E.e) h ?_ (λ_=>rfl)|refine Wk.gb h ?_|refine Wk.gb (f:=E.e) h ?_|refine Wk.ib (by assumption) ?_)|((with_reducible show Wk _ _ ((0<=_/\_<=_/\_<=_)/\_));first|refine Wk.wS h ?_|refine Wk.ye h ?_|refine Wk.wS (f:=E.e) h ?_)|((with_reducible show Wk _ _ (((_+_)*_<=_/\_<=_)/\_));first|refine Wk.yS h ?_|refine Wk.yS (f:=E.e) h ?_)|((with_reducible show Wk _ _ ((_<=_/\_<=_)/\_));first|refine Wk.vH h ?_|refine Wk.vH (f:=E.e) h ?_)|((with_reducible show Wk _ _ (_≠_/\_));first|refine Wk.and (by decide) ?_|refine Wk.sR h ?_)|((with_reducible show Wk _ _ (0<=_/\_));first|refine Wk.and (by decide) ?_|refine Wk.and (Int.natCast_nonneg _) ?_|refine Wk.sR h ?_)|refine Wk.st (by assumption) ?_|refine Wk.se ?_|refine Wk.sy h ?_ ?_|refine Wk.yk h ?_ ?_|exact Wk.vg h (by assumption) (by (conv=>whnf);exact wk) rfl rfl rfl|exact Wk.yp h (by assumption) (by (conv=>whnf);exact wk)|exact Wk.zl h (by assumption) (by exact wk) rfl rfl rfl|exact Wk.yq h (by assumption) (by exact wk)|with_reducible refine Wk.e0 ?_))):A:=(k h).h
end
instance:E oX:=⟨oX.cW,1⟩
instance:E Addr:=⟨Addr.cW,3⟩
instance:E fv:=⟨fv.cW,4⟩
instance:E s8:=⟨s8.cW,2⟩
instance:E Set:=⟨Set.cW,3⟩
instance:E oB:=⟨oB.cW,6⟩
instance:E ry:=⟨ry.cW,1⟩
instance:E mu:=⟨mu.cW,1⟩
instance:E sr:=⟨sr.cW,2⟩
instance:E r5:=⟨r5.cW,7⟩
instance:E r6:=⟨r6.cW,1⟩
instance:E oF:=⟨oF.cW,2⟩
instance:E r8:=⟨r8.cW,2⟩
instance:E n8:=⟨n8.cW,3⟩
instance:E kI:=⟨kI.cW,3⟩
instance:E gH:=⟨gH.cW,1⟩
instance:E gD:=⟨gD.cW,16⟩
instance:E gN:=⟨gN.cW,18⟩
instance:E pk:=⟨pk.cW,8⟩
instance:E re:=⟨re.cW,1⟩
instance:E uU:=⟨uU.cW,1⟩
instance:E sM:=⟨sM.cW,1⟩
instance:E rZ:=⟨rZ.cW,1⟩
instance:E sX:=⟨sX.cW,24⟩
instance:E rG:=⟨rG.cW,22⟩
instance:E w8:=⟨w8.cW,1⟩
instance:E vz:=⟨vz.cW,1⟩
instance:E vG:=⟨vG.cW,1⟩
abbrev yb (x:I):AV:=.d (D.b x)
abbrev yi (x:Int):AV:=.d (D.i x)
abbrev yu (x:j):AV:=.d (D.u64 x)
abbrev yv (x:S):AV:=.d (D.u8 x)
abbrev ys (x:T):AV:=.d (D.s x)
def oK {wl:Prop}{f:FuncId}(fn:Func){args:List AV}{gF:List OB}{J:AV}{H:List OB}(h:XC (vo (Wl wl) Tryz.prog tt s9 RZ 0 gF.length) fn args gF fun r o=>r=J∧o=H)(K:Tryz.prog.funcs[f]?=some fn:=by kernel_rfl)(P:(fn.name == "runtime.NumGoroutine")=false:=by kernel_rfl):Bj (Wl wl) Tryz.prog f args gF J H:=ok fn K P h
def oKx {wl:Prop}{f:FuncId}(ex:Nat)(fn:Func){args:List AV}{gF:List OB}{J:AV}{H:List OB}(h:XC (vo (Wl wl) Tryz.prog tt s9 RZ ex gF.length) fn args gF fun r o=>r=J∧o=H)(K:Tryz.prog.funcs[f]?=some fn:=by kernel_rfl)(P:(fn.name == "runtime.NumGoroutine")=false:=by kernel_rfl):Bj (Wl wl) Tryz.prog f args gF J H:=z7 ex fn K P h
def cO {H:Array Oper}{e:List (List Nat×List Nat)}{K:Prop}(k:K)(h:te H e=true:=by kernel_rfl):EF H 0 e=true/\K:=yZ h k
def dO {H:Array Oper}{K:Prop}(k:K)(h:tu H=true:=by kernel_rfl):Ef H=true/\K:=yY h k
abbrev yr (a b:Nat):AV:=.ref a b
abbrev yO {α:Type}(r:Nat)(f:α->D)(l:O α):AV:=.own r (Wr f l).length
abbrev yR {α:Type}(e s:Nat)(f:α->D)(l:O α):C OB:=some (OB.row e s (Wr f l) .no)
abbrev yB (l:O AV):C OB:=some (OB.box l)
abbrev y0 (l:O Int):AV:=.d (D.l 1 D.i l)
abbrev y1 (l:O S):AV:=.d (D.l 1 D.u8 l)
abbrev y2 (l:O fv):AV:=.d (D.l 4 fv.cW l)
abbrev y3 (l:O oF):AV:=.d (D.l 2 oF.cW l)
abbrev y4 (l:O r8):AV:=.d (D.l 2 r8.cW l)
abbrev y5 (l:O n8):AV:=.d (D.l 3 n8.cW l)
abbrev y6 (l:O gD):AV:=.d (D.l 16 gD.cW l)
abbrev y7 (l:O kI):AV:=.d (D.l 3 kI.cW l)
abbrev y8 (l:O sr):AV:=.d (D.l 2 sr.cW l)
abbrev y9 (l:O gN):AV:=.d (D.l 18 gN.cW l)
abbrev uE (l:O oB):AV:=.d (D.l 6 oB.cW l)
abbrev we (l:O T):AV:=.d (D.l 1 D.s l)
abbrev vh (l:O rG):AV:=.d (D.l 22 rG.cW l)
abbrev xR (l:O s8):AV:=.d (D.l 2 s8.cW l)
abbrev yU (l:O Addr):AV:=.d (D.l 3 Addr.cW l)
abbrev xO (H:O gN)(J:Int)(K:T)(P:Int)(Q:Int)(V:I)(Y:Int)(Z:O Addr):C OB:=yB [AV.d (D.i J),AV.d (D.s K),AV.d (D.i P),AV.d (D.i Q),AV.d (D.l 3 Addr.cW Z),AV.d (D.b V),yO 39 gN.cW H,AV.d (D.i Y)]
abbrev wY (H:Int)(J:Int)(K:O r5):O AV:=X::yr 1 0::dd 25 (AV.d (D.l 7 r5.cW K)::yi H::yi J::dd 77 ([]))
abbrev wL :O AV:=X::yr 1 0::X::X::AV.own 4 (Wr kI.cW []).length::AV.mp 24::dd 189 ([])
abbrev yA (K:Int)(P:I)(Q:I)(V:I)(Y:Int)(H:O Int)(J:O sr)(Z:oX):O (C OB):=yB (oX.av Z)::nn 4 (yB r5.zv::yB [yi K,yb P,yb Q,yb V,yi Y,yO 32 D.i H,yO 50 sr.cW J]::nn 25 (yR 3 1 D.i H::nn 17 (yR 139 2 sr.cW J::N::N::[])))
abbrev uP (H:re):O (C OB):=N::yB (re.av H)::nn 105 ([])
abbrev yK (H:Int)(J:Int)(K:Int)(P:Int)(Q:I)(V:O r5)(Y:O gN):O AV:=X::yr 1 0::dd 25 (AV.d (D.l 7 r5.cW V)::yi H::yi J::dd 57 (AV.d (D.l 18 gN.cW Y)::yi K::yi P::dd 14 (yb Q::X::X::[])))
abbrev yH (H:Int)(J:Int)(K:Int)(P:Int)(Q:O fv)(V:O pk)(Y:O gN):O AV:=X::X::X::yO 3 fv.cW Q::dd 8 (AV.d (D.l 8 pk.cW V)::yi H::yi J::dd 4 (AV.d (D.l 18 gN.cW Y)::yi K::yi P::dd 48 ([])))
abbrev yW (H:Int)(J:Int)(K:Int)(P:Int)(Q:O r5)(V:O gN):O AV:=X::yr 1 0::dd 25 (AV.d (D.l 7 r5.cW Q)::yi H::yi J::dd 57 (AV.d (D.l 18 gN.cW V)::yi K::yi P::dd 17 ([])))
abbrev ym (H:Int)(J:Int)(K:O fv)(P:O pk):O AV:=X::X::X::yO 3 fv.cW K::dd 8 (AV.d (D.l 8 pk.cW P)::yi H::yi J::dd 55 ([]))
abbrev xP (H:sM)(J:sM)(K:oX):O (C OB):=nn 6 (yB (sM.av H)::N::N::yB (sM.av J)::nn 9 (yB (oX.av K)::nn 72 ([])))
abbrev Z9 (H:gH)(J:gH):O (C OB):=N::N::yB (gH.av H)::yB (gH.av J)::nn 198 ([])
abbrev nZ (H:Int)(J:Int)(K:O fv):O AV:=X::X::X::yr 3 0::yr 4 0::yr 5 0::yr 6 0::X::yr 8 0::dd 45 (AV.d (D.l 4 fv.cW K)::yi H::yi J::dd 80 ([]))
abbrev pM (H:Int)(J:Int)(K:I)(P:O r5):O AV:=X::yr 1 0::X::yi H::dd 23 (AV.d (D.l 7 r5.cW P)::yi J::yi H::dd 51 (yb K::dd 25 ([])))
abbrev aB (H:O fv):O (C OB):=N::N::N::yR 80 4 fv.cW H::nn 66 ([])
abbrev js :O AV:=yr 0 0::X::X::X::yr 5 0::yr 6 0::dd 46 ([])
abbrev yC (wl:Prop):=Bj (Wl wl) Xc9
end Go.AX.Q29
end
section
namespace Go.AX.Q29
open Go Go.AX Go.Proofs Go.Proofs.YtgbncopbacigiaaGreatDoor
def za {H:Type}:Lit×DataW H->D×D
 | (.int k n,.lit (.int F m))=>(.val (.int k n),.val (.int F m))
 | _=>(D.i 0,D.i 0)
def w7 {W:B}{p:Prop}(h:laidMetH Xc9 Rows.deltaDiffsRow.laid W) :∃gb:Nat->Prop,(Wl p).gf gb W/\∀b,gb b->b<W.heap.size:=by
 have J := laidMetH.filter (fun x => x.1 == "exchangepoint/attribute.flags") h;have e2 : (Rows.deltaDiffsRow.laid.filter fun x => x.1 == "exchangepoint/attribute.flags") = [("exchangepoint/attribute.flags", Rows.laid_exchangepoint_attribute_flags)] := by kernel_rfl
 rw[e2] at J;obtain⟨H,_⟩:=laidMetH_iff.1 J;have e1 : (([("exchangepoint/attribute.flags", Rows.laid_exchangepoint_attribute_flags)] : O (String × DataW Unit)).filter fun x => x.2.handleName?.isNone) = [("exchangepoint/attribute.flags", Rows.laid_exchangepoint_attribute_flags)] := by kernel_rfl
 rw[e1] at H;obtain⟨ps,⟨g0,t0,a6,f0,p0,q0,K,Q,U,V,_⟩,_,_⟩:=H;obtain rfl := X25 ((show Xc9.globalNamed "exchangepoint/attribute.flags" = some 0 by kernel_rfl).symm.trans K);obtain rfl:=X25 ((show (Xc9.globals[0]?).map (·.type)=some 318 by kernel_rfl).symm.trans Q)
 obtain⟨b0,a0,c0,Y,M,Z,a1⟩:=eM (kd:=.i64) Tryz.underlying318 Tryz.underlying3 V za (λn v d m q hm F hf=>by
  obtain⟨j,H,J,_⟩:=DataW.trod_int Tryz.underlying3 F;simp only[X26] at J;obtain⟨rfl,_⟩:=J;have F:v=.int .i64 j:=by unfold Value.formed at hf;rw[Tryz.underlying3] at hf;cases v<;>simp_all [Xdj]
  subst F
  exact⟨rfl,rfl⟩)
 have P :∀{g:Nat} {n:String} {cs:Array A} {v:A},Xc9.globalNamed n=some g->W.var? Xc9 n=some cs->cs.toList=[v]->cellAt W g 0=some v/\g<W.heap.size:=by
  intro g n cs v hg F hc;have H:=World.var?_cell hg F 0;rw[Array.eq_one_of_toList hc] at H;have H:W.cell? ⟨g,0,none⟩=some v:=by simpa using H
  refine⟨H,?_⟩;unfold World.var? at F;rw[hg,Xbv] at F;cases hh:W.heap[g]? with
  | none=>rw[hh] at F;cases F
  | some o=>exact (Xby.1 hh).1
 obtain⟨k0,s0⟩:=P K U Y;refine⟨λb=>b=0\/b=b0,λg es hg=>?_,λb hb=>?_⟩;rotate_left
 ·rcases hb with rfl|rfl
  ·exact s0
  exact (Xby.1 M).1
 match g,hg with
 | 0,hg=>obtain rfl:BS D.i D.i Y3=es:=X25 hg;refine⟨.inl rfl,b0,a0,c0,_,.inr rfl,k0,M,λtk x q hq=>?_,bF a1⟩;refine Un (l:=BS D.i D.i Y3) (Z.symm) ?_ (by unfold Y3 BS;simp[D.i]) hq;intro q hq;obtain⟨z,_,rfl⟩:=Xa0.1 hq;exact⟨_,rfl⟩
 | g+1,hg=>cases hg
end Go.AX.Q29
end
section
namespace Go.AX
class Tt {ρ:Type} (m:Option ρ):Prop where
 h :∃r,m=some r
def Ok {ρ:Type}(m:C ρ)(Q:ρ->Prop):Prop:=∃r,m=some r/\Q r
def Ok.ret {ρ:Type}{Q:ρ->Prop}{r:ρ}(h:Q r):Ok (some r) Q:=⟨r,rfl,h⟩
theorem Ok.of {ρ:Type}{m:C ρ}[t:Tt m]:Ok m λr=>m=some r:=by obtain⟨r,h⟩:=t.h;exact⟨r,h,h⟩
def Ok.imp {ρ:Type}{m:C ρ}{P Q:ρ->Prop}(h:Ok m P)(k :∀r,P r->Q r):Ok m Q:=by obtain⟨r,F,H⟩:=h;exact⟨r,F,k r H⟩
theorem Ok.tt {ρ:Type}{m:C ρ}{Q:ρ->Prop}(h:Ok m Q):Tt m:=by obtain⟨r,F,_⟩:=h;exact⟨r,F⟩
def Ok.bind {α ρ:Type}{m:C α}{f:α->C ρ}{P:α->Prop}{Q:ρ->Prop}(h:Ok m P)(k :∀a,P a->Ok (f a) Q):Ok (Xd m f) Q:=by obtain⟨a,F,H⟩:=h;rw[F];exact k a H
def Ok.join {τ ρ:Type}{m:(τ->C ρ)->C ρ}{k:τ->C ρ}{Q:ρ->Prop}(J:τ->Prop)(H :∀F,(∀v,J v->Ok (F v) Q)->Ok (m F) Q)(K :∀v,J v->Ok (k v) Q):Ok (AC m k) Q:=H k K
def Ok.tn {α σ ρ:Type}{done:σ->C ρ}{body:(σ->C ρ)->α->Nat->σ->C ρ}{Q:ρ->Prop}{l:O α}{J:σ}(I:Nat->σ->Prop)(M:I 0 J)(P :∀s,I l.length s->Ok (done s) Q) (U :∀(next:σ->C ρ) x i s,l[i]?=some x->I i s->(∀F,I (i+1) F->Ok (next F) Q)->Ok (body next x i s) Q):Ok (AI done body l 0 J) Q:=by
 have key :∀(t:O α) (i:Nat) (s:σ),(∃p,l=p++t/\p.length=i)->I i s->Ok (AI done body t i s) Q:=by
  intro t;induction t with
  | nil=>intro i s ⟨p,hp,H⟩ K;exact P s (by rw[hp];simpa[H] using K)
  | cons x t V=>intro i s ⟨p,hp,H⟩ K;exact U _ x i s (by rw[hp,<- H];simp) K λF Y=>V (i+1) F ⟨p++[x],by simp[hp],by simp[H]⟩ Y
 exact key l 0 J ⟨[],rfl,rfl⟩ M
def Ok.xF {α σ ρ:Type}{done:σ->C ρ}{body:(σ->C ρ)->α->Nat->σ->C ρ}{Q:ρ->Prop}{l:O α}{F:σ}(I:Nat->σ->Prop)(K:I 0 F)(M :∀s,I l.length s->Ok (done s) Q) (P :∀(next:σ->C ρ) x i s,i<l.length->x∈l->I i s->(∀H,I (i+1) H->Ok (next H) Q)->Ok (body next x i s) Q):Ok (AI done body l 0 F) Q:=
 .tn I K M λn x i s J=>P n x i s (X16.1 J).1 (Xay J)
def Ok.for_ {α σ ρ:Type}{done:σ->C ρ}{body:(σ->C ρ)->α->Nat->σ->C ρ}{Q:ρ->Prop}{l:O α}{H:σ}(J :∀s,Ok (done s) Q) (K :∀(next:σ->C ρ) x i s,i<l.length->x∈l->(∀F,Ok (next F) Q)->Ok (body next x i s) Q):Ok (AI done body l 0 H) Q:=
 .xF (λ_ _=>True) trivial (λs _=>J s) λn x i s M P _ U=>K n x i s M P λF=>U F trivial
def Ok.sP {σ ρ:Type}{body:(σ->C ρ)->σ->C ρ}{n:Nat}{s:σ}{Q:ρ->Prop}(I:σ->Prop)(F:σ->Nat)(J:I s)(K:F s<n) (M :∀(next:σ->C ρ) s,I s->(∀H,I H->F H<F s->Ok (next H) Q)->Ok (body next s) Q):Ok (Ai body n s) Q:=
 S3 I F Q (λnext s h k=>M next s h k) n s J K
def Ok.ite {ρ:Type}{p:Prop}[Decidable p]{x y:C ρ}{Q:ρ->Prop}(F:p->Ok x Q)(H:¬ p->Ok y Q):Ok (if p then x else y) Q:=by
 split
 ·exact F ‹_›
 exact H ‹_›
def Ok.iX {α:Type}{l:O α}{i:Int}(h:0<=i/\i<l.length):Ok (iX l i) λx=>x∈l/\iX l i=some x:=by
 have F:i.toNat<l.length:=by omega
 have H:Go.AX.iX l i=some l[i.toNat]:=by unfold Go.AX.iX;rw[Xy h];simp[F]
 exact⟨_,H,Wx F,H⟩
def Ok.sx {α:Type}{l:O α}{i:Int}{x:α}(h:0<=i/\i<l.length):Ok (sx l i x) λF=>F=l.set i.toNat x/\F.length=l.length:=by refine⟨_,?_,rfl,by simp⟩;unfold Go.AX.sx;rw[Xy h]
def Ok.gE {α:Type}{b:Nat}{l m:O α}(F:Xdi b 65536=true)(h:l.length+m.length<=1000000000):Ok (gE b l m) λH=>H=l++m:=⟨_,AD F h,rfl⟩
def Ok.part {α:Type}{l:O α}{a b:Int}(h:0<=a/\a<=b/\b<=l.length):Ok (part l a b) λF=>F=(l.drop a.toNat).take (b.toNat-a.toNat)/\(F.length:Int)=b-a:=by refine⟨_,?_,rfl,by simp;omega⟩;unfold Go.AX.part;rw[Xy h]
def Ok.sR {p:Prop}[Decidable p](h:p):Ok (sR p) λ_=>True:=by refine⟨(),?_,trivial⟩;unfold Go.AX.sR;rw[Xy h]
theorem Tt.so {ρ:Type}{m:Option ρ} (h:Ok m λ_=>True:=by
  repeat' (first
   | exact Ok.ret trivial
   | assumption
   | (refine Ok.bind Ok.of ?_;intros)
   | (refine Ok.ite ?_ ?_<;>intros)
   | (refine Ok.join (λ_=>True) ?_ ?_<;>intros)
   | (refine Ok.for_ ?_ ?_<;>intros)
   | (refine Ok.bind (Ok.iX ?_) ?_<;>intros)
   | (refine Ok.bind (Ok.sR ?_) ?_<;>intros)
   | exact ‹∀v,True->Ok _ _› _ trivial
   | exact ‹∀v,Ok _ _› _
   | solve_by_elim
   | (constructor<;>first|omega|(simp_all;done)|(simp_all;omega))
   | omega
   | decide)):Tt m:=h.tt
def Ok.q {ρ:Type}{m:Option ρ}{Q:ρ->Prop} (h:Ok m Q:=by
  repeat' (first
   | assumption
   | refine Ok.ret ?_
   | exact trivial
   | (refine Ok.bind Ok.of ?_;intros)
   | (refine Ok.ite ?_ ?_<;>intros)
   | (refine Ok.bind (Ok.sR ?_) ?_<;>intros)
   | (refine Ok.bind (Ok.iX ?_) ?_<;>intros)
   | (refine Ok.bind (Ok.sx ?_) ?_<;>intros)
   | (refine Ok.bind (Ok.gE (by decide) ?_) ?_<;>intros)
   | refine ‹∀v,_->_->Ok _ _› _ ?_ ?_
   | refine ‹∀v,_->Ok _ _› _ ?_
   | exact ‹∀v,Ok _ _› _
   | (refine Ok.join (τ:=Bool) (λ_=>True) ?_ ?_<;>intros)
   | (refine Ok.join (τ:=Unit) (λ_=>True) ?_ ?_<;>intros)
   | omega
   | solve_by_elim
   | (simp_all;done)
   | (simp_all;omega)
   | (simp only[X11,X12,X13,X21,decide_eq_true_eq,beq_iff_eq,bne_iff_ne,Bool.not_eq_true'] at *;(try subst_vars);(try simp only[X11,X12,X13]);omega))):Ok m Q:=h
def Po {ρ:Type}(m:C ρ)(Q:ρ->Prop):Prop:=∀r,m=some r->Q r
def Po.ret {ρ:Type}{Q:ρ->Prop}{r:ρ}(h:Q r):Po (some r) Q:=λ_ e=>X25 e▸h
def Po.imp {ρ:Type}{m:C ρ}{P Q:ρ->Prop}(h:Po m P)(k :∀r,P r->Q r):Po m Q:=λr e=>k r (h r e)
def Po.bind {α ρ:Type}{m:C α}{f:α->C ρ}{Q:ρ->Prop}(k :∀a,m=some a->Po (f a) Q):Po (Xd m f) Q:=by
 intro r e;cases hm:m with
 | none=>rw[hm] at e;cases e
 | some a=>rw[hm] at e;exact k a hm r e
def Po.join {τ ρ:Type}{m:(τ->C ρ)->C ρ}{k:τ->C ρ}{Q:ρ->Prop}(J:τ->Prop)(H :∀F,(∀v,J v->Po (F v) Q)->Po (m F) Q)(K :∀v,J v->Po (k v) Q):Po (AC m k) Q:=H k K
def Po.ite {ρ:Type}{p:Prop}[Decidable p]{x y:C ρ}{Q:ρ->Prop}(F:p->Po x Q)(H:¬ p->Po y Q):Po (if p then x else y) Q:=by
 split
 ·exact F ‹_›
 exact H ‹_›
def Po.tn {α σ ρ:Type}{done:σ->C ρ}{body:(σ->C ρ)->α->Nat->σ->C ρ}{Q:ρ->Prop}{l:O α}{J:σ}(I:Nat->σ->Prop)(M:I 0 J)(P :∀s,I l.length s->Po (done s) Q) (U :∀(next:σ->C ρ) x i s,l[i]?=some x->I i s->(∀F,I (i+1) F->Po (next F) Q)->Po (body next x i s) Q):Po (AI done body l 0 J) Q:=by
 have key :∀(t:O α) (i:Nat) (s:σ),(∃p,l=p++t/\p.length=i)->I i s->Po (AI done body t i s) Q:=by
  intro t;induction t with
  | nil=>intro i s ⟨p,hp,H⟩ K;exact P s (by rw[hp];simpa[H] using K)
  | cons x t V=>intro i s ⟨p,hp,H⟩ K;exact U _ x i s (by rw[hp,<- H];simp) K λF Y=>V (i+1) F ⟨p++[x],by simp[hp],by simp[H]⟩ Y
 exact key l 0 J ⟨[],rfl,rfl⟩ M
def Po.for_ {α σ ρ:Type}{done:σ->C ρ}{body:(σ->C ρ)->α->Nat->σ->C ρ}{Q:ρ->Prop}{l:O α}{F:σ}(I:σ->Prop)(J:I F)(K :∀s,I s->Po (done s) Q) (M :∀(next:σ->C ρ) x i s,x∈l->I s->(∀H,I H->Po (next H) Q)->Po (body next x i s) Q):Po (AI done body l 0 F) Q:=
 .tn (λ_=>I) J K λn x i s P=>M n x i s (Xay P)
def Po.gE {α:Type}{b:Nat}{l m:O α}:Po (Go.AX.gE b l m) λr=>r=l++m:=by
 intro r e;unfold Go.AX.gE at e;split at e
 ·exact (X25 e).symm
 cases e
def Po.iX {α:Type}{l:O α}{i:Int}:Po (Go.AX.iX l i) λx=>0<=i/\l[i.toNat]?=some x:=by
 intro r e;unfold Go.AX.iX at e;split at e
 ·rename_i h;exact⟨h.1,e⟩
 cases e
def Po.sx {α:Type}{l:O α}{i:Int}{x:α}:Po (Go.AX.sx l i x) λr=>0<=i/\i.toNat<l.length/\r=l.set i.toNat x:=by
 intro r e;unfold Go.AX.sx at e;split at e
 ·rename_i h;exact⟨h.1,by omega,(X25 e).symm⟩
 cases e
def Po.part {α:Type}{l:O α}{a b:Int}:Po (Go.AX.part l a b) λr=>r=(l.drop a.toNat).take (b.toNat-a.toNat):=by
 intro r e;unfold Go.AX.part at e;split at e
 ·exact (X25 e).symm
 cases e
def Ok.and {ρ:Type}{m:C ρ}{P Q:ρ->Prop}(h:Ok m P)(k:Po m Q):Ok m λr=>P r/\Q r:=by obtain⟨r,F,H⟩:=h;exact⟨r,F,H,k r F⟩
def Po.eq {ρ:Type}{m:C ρ}{r:ρ}{Q:ρ->Prop}(h:m=some r)(k:Q r):Po m Q:=h▸.ret k
def Po.sy {τ ρ:Type}{m:(τ->C ρ)->C ρ}{k:τ->C ρ}{Q:ρ->Prop}(H :∀F,(∀v,Po (F v) Q)->Po (m F) Q)(J :∀v,Po (k v) Q):Po (AC m k) Q:=H k J
end Go.AX
end
section
namespace Go.AX
def Oo {α ρ:Type}{g:α->I}{body:(Unit->C ρ)->α->Nat->Unit->C ρ}{K:Unit->C ρ}{r0:C ρ} : ∀{l:O α} {i:Nat},(∀next x i,x∈l->body next x i ()=cond (g x) (next ()) r0)->AI K body l i ()=cond (l.all g) (K ()) r0
 | [],_,_=>rfl
 | x::t,i,h=>by
  show body (λs=>AI K body t (i+1) s) x i ()=_;rw[h _ x i (by simp),Xd1];cases g x
  ·rfl
  exact Oo λnext y j F=>h next y j (X19 _ F)
def nq {α:Type}{f:α->C I}{q:α->I} :∀{l:O α} {i:Nat},(∀x∈l,f x=some (q x))-> AI (λ_=>some (-1)) (λnext x i _=>Xd (f x) λv=>if v then some (i:Int) else next ()) l i ()=some (match l.findIdx? q with|some j=>((i+j:Nat):Int)|none=>-1)
 | [],_,_=>rfl
 | x::t,i,h=>by
  show Xd (f x) (λv=>if v then some (i:Int) else AI (λ_=>some (-1)) _ t (i+1) ())=_;rw[h x (by simp),AA,List.findIdx?_cons];by_cases F:q x=true
  ·rw[Xy F,Xy F];simp
  rw[Xj F,Xj F,nq λy H=>h y (X19 _ H)];cases t.findIdx? q with
  | none=>rfl
  | some j=>simp only[Xbt];rw[show i+1+j=i+(j+1) by omega]
def oH {α:Type}{f:α->C I}{q:α->I}{l:O α}(h :∀x∈l,f x=some (q x)) : (Xd (AC (τ:=Unit) (λH=>AI (λ_=>H ()) (λnext x i _=>Xd (f x) λv=>if v then some (i:Int) else next ()) l 0 ()) λ_=>some (-1)) λv1=>some (decide (v1≥0)))=some (l.any q):=by
 rw[AB,nq h,AA];congr 1;cases F:l.findIdx? q with
 | none=>
  have:l.any q=false:=by rw[List.findIdx?_eq_none_iff] at F;simp only[List.any_eq_false];intro x J;simp[F x J]
  rw[this];rfl
 | some j=>have M:=List.findIdx?_eq_some_iff_getElem.1 F;obtain⟨P,Q,_⟩:=M;have:l.any q=true:=List.any_eq_true.2 ⟨_,Wx P,Q⟩;rw[this];simp
def zy {α:Type}[DecidableEq α]{a b:O α}{e:α->α->I}(P :∀x y,e x y=!decide (x=y)) : (if ((a.length:Int) !=(b.length:Int)) then some false else AC (τ:=Unit) (λQ=>AI (λ_=>Q ()) (λnext x i _=>Xd (iX b (i:Int)) λv=>if e v x then some false else next ()) a 0 ()) λ_=>some true)=some (decide (a=b)):=by
 by_cases M:a.length=b.length
 ·rw[Xj (by simp[M]),AB];have key :∀(t:O α) (i:Nat),i+t.length=b.length->AI (λ_=>some true) (λnext x i _=>Xd (iX b (i:Int)) λv=>if e v x then some false else next ()) t i ()=some (decide (t=b.drop i)):=by
   intro t;induction t with
   | nil=>intro i H;simp only[X13,Xch] at H;rw[H,List.drop_length];rfl
   | cons x t U=>
    intro i H;simp only[X12] at H;have F:i<b.length:=by omega
    show Xd (iX b (i:Int)) (λv=>if e v x then some false else AI (λ_=>some true) _ t (i+1) ())=_;have Y:b.drop i=b[i]::b.drop (i+1):=Xbb F;rw[As F,AA,U (i+1) (by omega),Y,P];generalize b[i]=y;generalize b.drop (i+1)=u;by_cases J:y=x
    ·subst J;simp
    simp[J,Ne.symm J]
  rw[key a 0 (by omega),List.drop_zero]
 rw[Xy (by simp;omega)];have:¬ a=b:=by rintro rfl;exact M rfl
 rw[Ws this]
def lz (a b:T):(a.toList==b.toList)=decide (a=b):=by
 have h:a.toList=b.toList↔a=b:=by
  rw[Xd8,Xd8];constructor
  ·intro h;have F:a.data=b.data:=Array.toList_inj.1 h;cases a;cases b;simp_all
  rintro rfl;rfl
 rw[X28,Xbi,Xe,h]
def T9 {a b:T}(h:(a==b)=true):a=b:=(Go.MapKept.bytes_beq a b).1 h
def mF {a:T}:(a==a)=true:=(Go.MapKept.bytes_beq a a).2 rfl
instance:LawfulBEq T:={ eq_of_beq:=T9,rfl:=mF }
section
variable {K V:Type} [BEq K] [LawfulBEq K]
def tb (l:O (K×V))(k:K)(v:V)(H:K):A8 (A3 l k v) H=if H==k then some v else A8 l H:=by
 induction l with
 | nil=>unfold A3;simp only[A8]
 | cons p l J=>
  unfold A3;by_cases hp:(k==p.1)=true
  ·rw[Xy hp];have:=eq_of_beq hp;simp only[A8];by_cases F:(H==k)=true
   ·rw[Xy F,Xy F]
   rw[Xj F,Xj F,Xj (by rw[<- this];exact F)]
  rw[Xj hp];simp only[A8,J];by_cases F:(H==k)=true
  ·have:=eq_of_beq F;subst this;rw[Xj hp,Xy F,Xy F]
  rw[Xj F,Xj F]
def SC {l:O (K×V)}{k:K}{v:V}(h:A8 l k=some v):(k,v)∈l:=by
 induction l with
 | nil=>simp[A8] at h
 | cons p l F=>
  simp only[A8] at h;split at h
  ·rename_i hp;have:=eq_of_beq hp;simp only[X24] at h;subst h this;simp
  exact X19 _ (F h)
def ac {l:O (K×V)}{k:K}:A8 l k=none ↔∀p∈l,p.1≠k:=by
 induction l with
 | nil=>simp[A8]
 | cons p l F=>
  simp only[A8,Wp,forall_eq_or_imp];by_cases hp:(k==p.1)=true
  ·rw[Xy hp];have:=eq_of_beq hp;simp[this]
  rw[Xj hp,F];have:p.1≠k:=λe=>hp (by rw[e];exact Xcw k);simp[this]
def ZW {l:O (K×V)}{k:K}:(∃v,A8 l k=some v)↔k∈l.map (·.1):=by
 constructor
 ·rintro⟨v,h⟩;exact Xa0.2 ⟨_,SC h,rfl⟩
 intro h;obtain⟨p,hp,rfl⟩:=Xa0.1 h;cases hg:A8 l p.1 with
 | none=>exact absurd rfl (ac.1 hg p hp)
 | some v=>exact⟨v,rfl⟩
def NY (l:O (K×V))(k:K)(v:V):(A3 l k v).map (·.1)=if k∈l.map (·.1) then l.map (·.1) else l.map (·.1)++[k]:=by
 induction l with
 | nil=>simp[A3]
 | cons p l H=>
  unfold A3;by_cases hp:(k==p.1)=true
  ·rw[Xy hp];have:=eq_of_beq hp;simp[this]
  rw[Xj hp,Xam,H];have F:¬ k=p.1:=λe=>hp (by rw[e];exact Xcw _);simp only[Xam,Wp,F,false_or];split
  ·rfl
  simp
def YI {l:O (K×V)}{k:K}{v:V}(h:(l.map (·.1)).Nodup):((A3 l k v).map (·.1)).Nodup:=by
 rw[NY];split
 ·exact h
 rename_i H;rw[Xbw];exact⟨h,by simp,λa J b F e=>by simp at F;subst F;subst e;exact H J⟩
def PZ {l:O (K×V)}{k:K}{v:V}{x:K}:x∈(A3 l k v).map (·.1)↔x∈l.map (·.1)\/x=k:=by
 rw[NY];split
 ·rename_i F;constructor
  ·exact .inl
  rintro (h|rfl)
  ·exact h
  exact F
 simp
end
def CN {α:Type}(p:α->I)(l:O α):(l.takeWhile p).length<=l.length:=(List.takeWhile_prefix p).length_le
def NE {α:Type}{p:α->I} :∀{l:O α} {k:Nat} (F:k<l.length),k<=(l.takeWhile p).length->(k<(l.takeWhile p).length↔p l[k]=true)
 | [],_,F,_=>by simp at F
 | x::t,k,F,h=>by
  rw[List.takeWhile_cons] at h⊢;by_cases hp:p x=true
  ·rw[Xy hp] at h⊢;cases k with
   | zero=>simp[hp]
   | succ k=>simpa using NE (p:=p) (l:=t) (k:=k) (by simpa using F) (by simpa using h)
  rw[Xj hp] at h⊢;have:k=0:=by simpa using h
  subst this;simp[hp]
def jz {α ρ:Type}{l:O α}{p:α->I}(g:α->(I->C ρ)->C ρ){K:Int->C ρ}(P:l.length<=1000000000000)(hg :∀x∈l,∀k,g x k=k (p x)) : AC (λJ=>Ai (λnext v=>AC (λH=>if decide (v<(l.length:Int)) then Xd (iX l v) λx=>g x H else H false) (λc=>if c=true then next (AQ (v+1)) else J v)) rp 0) K=K ((l.takeWhile p).length:Int):=by
 have Q:=CN p l;rw[AB,Cm (λv:Int=>0<=v/\v<=((l.takeWhile p).length:Int)) (λv=>(l.length-v).toNat) (λ_=>K ((l.takeWhile p).length:Int)) ?_ rp 0 (by omega) (BK (by omega))];intro next v U M
 obtain⟨k,rfl⟩ :∃k:Nat,v=k:=⟨v.toNat,by omega⟩;rw[AB];by_cases F:k<l.length
 ·rw[Xy (by simpa using F),As F,AA,hg _ (Wx F)];have h:=NE (p:=p) F (by omega);by_cases hp:p l[k]=true
  ·rw[Xy hp,AN (by omega)];have:=h.2 hp;exact M _ (by omega) (by omega)
  rw[Xj hp];have:¬ k<(l.takeWhile p).length:=λq=>hp (h.1 q);have:k=(l.takeWhile p).length:=by omega
  rw[this]
 rw[Xj (by simpa using F)];have:k=(l.takeWhile p).length:=by omega
 subst this;rfl
def OH {α:Type}[DecidableEq α] :∀{l m:O α},l.Nodup->(∀x∈l,x∈m)->l.length<=m.length
 | [],_,_,_=>Xd9 _
 | x::t,m,h,F=>by obtain⟨M,P⟩:=List.nodup_cons.1 h;have H:=F x (by simp);have:=OH (m:=m.erase x) P λy J=>(List.mem_erase_of_ne (λe=>M (by rw[<- e];exact J))).2 (F y (X19 _ J));rw[List.length_erase_of_mem H] at this;have:0<m.length:=List.length_pos_of_mem H;simp only[X12];omega
def KJ {α:Type}(lt:α->α->I)(l:O α)(x:α):O α:=l.takeWhile (lt · x)++x::l.dropWhile (lt · x)
def HY {α:Type}{lt:α->α->I}{l:O α}{x y:α}:y∈KJ lt l x↔y∈l\/y=x:=by
 unfold KJ;have:y∈l↔y∈l.takeWhile (lt · x)\/y∈l.dropWhile (lt · x):=by rw[<- X23,Xbk]
 rw[this,X23,Wp];constructor
 ·rintro (h|h|h)
  ·exact .inl (.inl h)
  ·exact .inr h
  exact .inl (.inr h)
 rintro ((h|h)|h)
 ·exact .inl h
 ·exact .inr (.inr h)
 exact .inr (.inl h)
def Hm {α:Type}(lt:α->α->I)(l:O α)(x:α):(KJ lt l x).length=l.length+1:=by unfold KJ;have:=congrArg List.length (Xbk (p:=(lt · x)) (l:=l));simp only[X11,X12] at this⊢;omega
def IJ {α:Type}(p:α->I){l:O α}{x:α}(h:x∈l.takeWhile p):p x=true:=by
 induction l with
 | nil=>simp at h
 | cons y t F=>
  rw[List.takeWhile_cons] at h;split at h
  ·rcases Wp.1 h with rfl|h
   ·assumption
   exact F h
  simp at h
def Jx {α:Type}{lt:α->α->I}(M :∀a b c,lt a b=true->lt b c=true->lt a c=true)(H :∀a b,lt a b=false->a=b\/lt b a=true){l:O α}{x:α}(h:l.Pairwise λa b=>lt a b=true)(Z:x∉l) : (KJ lt l x).Pairwise λa b=>lt a b=true:=by
 have h0:=h;rw[<- Xbk (p:=(lt · x)) (l:=l),Xb0] at h;obtain⟨h1,P,h3⟩:=h;have hd :∀b∈l.dropWhile (lt · x),lt x b=true:=by
  cases Q:l.dropWhile (lt · x) with
  | nil=>intro b F;simp at F
  | cons y t=>
   have hy:lt y x=false:=by have:=List.head?_dropWhile_not (lt · x) l;rw[Q] at this;simpa using this
   have U:y∈l:=by
    have:y∈l.dropWhile (lt · x):=by rw[Q];simp
    exact List.dropWhile_subset _ this
   have J:lt x y=true:=by
    rcases H _ _ hy with e|e
    ·subst e;exact absurd U Z
    exact e
   rw[Q] at P;intro b F;rcases Wp.1 F with rfl|F
   ·exact J
   exact M _ _ _ J ((Wu.1 P).1 b F)
 unfold KJ;rw[Xb0];refine⟨h1,Wu.2 ⟨hd,P⟩,λa Y b F=>?_⟩;rcases Wp.1 F with e|F
 ·rw[e];exact IJ (lt · x) Y
 exact h3 a Y b F
def sD {α:Type}(p:α->I)(l:O α):l.take (l.takeWhile p).length=l.takeWhile p/\l.drop (l.takeWhile p).length=l.dropWhile p:=by
 have h:=Xbk (p:=p) (l:=l);constructor
 ·conv=>lhs;arg 2;rw[<- h]
  rw[List.take_left'];rfl
 conv=>lhs;arg 2;rw[<- h]
 rw[List.drop_left'];rfl
end Go.AX
end
section
namespace Go.AX
def Zo (a b:Int):Int:=if a<b then -1 else if b<a then 1 else 0
def vi:O Int->Int
 | []=>0
 | x::t=>if x=0 then vi t else x
def DL:O Int->O Int->Int
 | x::s,y::t=>if x<y then -1 else if y<x then 1 else DL s t
 | _,_=>0
def Wn (x:Int)(t:O Int):vi (x::t)=if x=0 then vi t else x:=rfl
def kW (x y:Int)(t:O Int):vi (Zo x y::t)=if x<y then -1 else if y<x then 1 else vi t:=by
 rw[Wn];unfold Zo;split
 ·rfl
 split<;>simp
def Zr (x y:Int)(s t:O Int):DL (x::s) (y::t)=if x<y then -1 else if y<x then 1 else DL s t:=rfl
def gi:DL [] []=0:=rfl
def Ig :∀a:O Int,DL a a=0
 | []=>rfl
 | x::t=>by unfold DL;simp[Ig t]
def Ik :∀{a b:O Int},a.length=b.length->DL a b=0->a=b
 | [],[],_,_=>rfl
 | [],_::_,h,_=>by simp at h
 | _::_,[],h,_=>by simp at h
 | x::s,y::t,h,e=>by
  unfold DL at e;split at e
  ·simp at e
  split at e
  ·simp at e
  rw[Ik (by simpa using h) e,show x=y by omega]
def M3 :∀a b:O Int,DL b a=- DL a b
 | [],[]=>rfl
 | [],_::_=>rfl
 | _::_,[]=>rfl
 | x::s,y::t=>by unfold DL;have:=M3 s t;split<;>split<;>first|omega|(split<;>omega)
def PC :∀{a b c:O Int},a.length=b.length->b.length=c.length->DL a b<0->DL b c<0->DL a c<0
 | [],_,_,_,_,h,_=>by simp[DL] at h
 | _::_,[],_,h,_,_,_=>by simp at h
 | _::_,_::_,[],_,h,_,_=>by simp at h
 | x::s,y::t,z::u,J,K,H,F=>by
  have M:=@PC s t u (by simpa using J) (by simpa using K);unfold DL at H F⊢;by_cases P:x<y
  ·by_cases a2:y<z
   ·rw[Xy (by omega)];omega
   rw[Xj a2] at F;by_cases a3:z<y
   ·rw[Xy a3] at F;omega
   rw[Xy (by omega)];omega
  rw[Xj P] at H;by_cases a4:y<x
  ·rw[Xy a4] at H;omega
  rw[Xj a4] at H;have:x=y:=by omega
  subst this;by_cases a2:x<z
  ·rw[Xy a2];omega
  rw[Xj a2] at F⊢;by_cases a3:z<x
  ·rw[Xy a3] at F;omega
  rw[Xj a3] at F⊢;exact M H F
section
variable {X:Type} {key:X->O Int}
def tR (key:X->O Int)(a b:X):I:=decide (DL (key a) (key b)<0)
def Yy (a:X):tR key a a=false:=by unfold tR;rw[Ig];rfl
def Qj (F :∀a b:X,(key a).length=(key b).length)(a b c:X)(H:tR key a b=true)(J:tR key b c=true):tR key a c=true:=by unfold tR at *;simp only[Xe] at *;exact PC (F _ _) (F _ _) H J
def Yq (F :∀a b:X,(key a).length=(key b).length)(a b:X)(h:tR key a b=false):key a=key b\/tR key b a=true:=by
 unfold tR at *;simp only[Xb2,Xe] at *;have:=M3 (key a) (key b);by_cases H:DL (key a) (key b)=0
 ·exact .inl (Ik (F _ _) H)
 exact .inr (by omega)
def WH (F :∀a b:X,(key a).length=(key b).length)(a b:X)(h:tR key a b=true):tR key b a=false:=by
 cases H:tR key b a
 ·rfl
 have:=Qj F _ _ _ h H;rw[Yy] at this;simp at this
def jU (F :∀a b:X,(key a).length=(key b).length)(a b c:X)(H:tR key a b=false)(J:tR key b c=false):tR key a c=false:=by
 rcases Yq F _ _ H with e|H
 ·unfold tR at *;rw[e];exact J
 rcases Yq F _ _ J with e|J
 ·refine WH F _ _ ?_;unfold tR at *;rw[<- e];exact H
 exact WH F _ _ (Qj F _ _ _ J H)
variable {cmp:X->X->C Int}
def ZC (F :∀a b,cmp a b=some (DL (key a) (key b)))(a b:X):tM cmp a b=tR key a b:=by unfold tM;rw[F];rfl
def kh (K :∀a b:X,(key a).length=(key b).length)(F :∀a b,cmp a b=some (DL (key a) (key b))){l:O X}(P:l.length<=1000000000) : Ok (LD cmp l) λr=>r.Perm l/\r.Pairwise λa b=>tR key b a=false:=by obtain⟨r,M⟩:=X9 (cmp:=cmp) (l:=l) (jy (λa _ b _=>⟨_,F a b⟩) (λa _=>by rw[ZC F,Yy]) (λa _ b _ c _ H J=>by rw[ZC F] at *;exact Qj K _ _ _ H J) (λa _ b _ c _ H J=>by rw[ZC F] at *;exact jU K _ _ _ H J) P);obtain⟨H,J⟩:=RL M;exact⟨r,M,H,J.imp λh=>by rw[ZC F] at h;exact h⟩
end
def NI {α:Type}{lt:α->α->I}(htr :∀a b c,lt a b=true->lt b c=true->lt a c=true)(hirr :∀a,lt a a=false){l:O α}{x:α}(M:l.Pairwise λa b=>lt a b=true) : x∈l↔l[(l.takeWhile (lt · x)).length]?=some x:=by
 constructor
 ·intro F;rw[<- Xbk (p:=(lt · x)) (l:=l),X23] at F;rcases F with F|F
  ·have:=IJ (lt · x) F;rw[hirr] at this;simp at this
  have P:=(sD (lt · x) l).2;cases H:l.dropWhile (lt · x) with
  | nil=>rw[H] at F;simp at F
  | cons y t=>
   have Q:lt y x=false:=by have:=List.head?_dropWhile_not (lt · x) l;rw[H] at this;simpa using this
   have hp:(y::t).Pairwise λa b=>lt a b=true:=by rw[<- H];exact M.sublist (List.dropWhile_sublist _)
   rw[H] at F;have J:x=y:=by
    rcases Wp.1 F with e|e
    ·exact e
    have:=(Wu.1 hp).1 x e;rw[Q] at this;simp at this
   have K:(l.drop (l.takeWhile (lt · x)).length)[0]?=some x:=by rw[P,H,J];rfl
   rw[List.getElem?_drop] at K;simpa using K
 intro h;exact Xay h
def P0 {α:Type}{l:O α}{i:Nat}{x:α}(h:i<l.length):(l.set i x).take (i+1)=l.take i++[x]:=by rw[Xb8,List.take_set_of_le (Xa8 _),Xcm h];rfl
section
variable {α:Type} {lt:α->α->I} (hirr :∀a,lt a a=false) (htr :∀a b c,lt a b=true->lt b c=true->lt a c=true) (htot :∀a b,lt a b=false->a=b\/lt b a=true)
include htr htot
include hirr
end
end Go.AX
end
section
namespace Go.AX.Q29
open Go Go.AX
def fl (t:Int):Int:=if t=1 then 64 else if t=2 then 64 else if t=3 then 64 else if t=4 then 128 else if t=5 then 64 else if t=8 then 192 else if t=32 then 192 else if t=35 then 192 else 0
def vp (t:Int):I:=decide (fl t=0)&&(decide (t≠14)&&decide (t≠15))
def ME (t:Int):(t=1/\fl t=64)\/(t=2/\fl t=64)\/(t=3/\fl t=64)\/(t=4/\fl t=128)\/(t=5/\fl t=64)\/(t=8/\fl t=192)\/(t=32/\fl t=192)\/(t=35/\fl t=192) \/ (t≠1/\t≠2/\t≠3/\t≠4/\t≠5/\t≠8/\t≠32/\t≠35/\fl t=0):=by unfold fl;by_cases F:t=1<;>by_cases H:t=2<;>by_cases J:t=3<;>by_cases K:t=4<;>by_cases M:t=5<;>by_cases P:t=8<;>by_cases Q:t=32<;>by_cases U:t=35<;>first|(exfalso;omega)|simp[F,H,J,K,M,P,Q,U]
def Jg (t:Int):A9 t=some (fl t):=by
 unfold A9;simp only[AB,Xbi];rcases ME t with ⟨h,e⟩|⟨h,e⟩|⟨h,e⟩|⟨h,e⟩|⟨h,e⟩|⟨h,e⟩|⟨h,e⟩|⟨h,e⟩|⟨F,H,J,K,M,P,Q,U,e⟩<;>rw[e];iterate 8 (subst h;rfl)
 simp[F,H,J,K,M,P,Q,U]
def mD (t:Int)(k:I->C I):(if (fl t==0)=true then if (cond true (t !=14) false)=true then k (cond true (t !=15) false) else k false else k false)=k (vp t):=by have e1:(t !=14)=!decide (t=14):=rfl;have e2:(t !=15)=!decide (t=15):=rfl;unfold vp;rw[e1,e2];by_cases F:fl t=0<;>by_cases H:t=14<;>by_cases J:t=15<;>simp[F,H,J]
def IS (t:Int):CL t=some (vp t):=by unfold CL;rw[AB,Jg,AA];exact mD t some
def Zn (a b c:Int):Ed a b c=some (decide (b<=a)&&decide (a<=c)):=by
 unfold Ed;rw[AB];by_cases h:b<=a
 ·rw[Xy (by simpa using h),Wd h];rfl
 rw[Xj (by simpa using h),Ws h];rfl
def vd (a:Int):Em a=some (decide (1<=a)&&decide (a<=4294967295)):=by
 unfold Em;rw[AB];by_cases h:1<=a
 ·rw[Xy (by simpa using h),Wd h];rfl
 rw[Xj (by simpa using h),Ws h];rfl
def bt (x m:Int):Int:=AQ ((Wv 64 x &&& Wv 64 m).toNat:Int)
def val (l:O S):Nat:=l.foldl (λm x=>m*256+x.toNat) 0
def Ur (l:O S)(x:S):val (l++[x])=val l*256+x.toNat:=by simp[val]
end Go.AX.Q29
end
