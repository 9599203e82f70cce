/-
  Texts of one proof, packed: Ax11 Ax12 Ax13 Ax14 Ax15 Ax16 Ax17 Ax18 Ax19 Ax21 AxG Ax20 Ax22 Q18Tab AxB3 Q18Sp AxB AxB5.
-/
import Derived.Test.YtbhoockehnpdoaaDoorK1
import Derived.Below
import Derived.Carry
import Derived.ChangeOld
import Derived.Deep.Draws
import Derived.Deep.Slices
import Derived.IntWalk
import Derived.KernelRfl
import Derived.LaidHandle
import Derived.LaidMore
import Derived.MakeChecks
import Derived.OpenShut
import Derived.ProofKit
import Derived.Shelf.SlSortCmp.Insertion
import Derived.Shelf.SlSortCmp.NoneTotal
import Derived.SizedLaws
import Derived.Sort.AssemblyPlain
import Derived.Test.YtbhoockehnpdoaaDoorProg
import Derived.WalkKit
import Derived.WideKeyElems2
set_option linter.all false
section
namespace Go.AX
def Agree (rs:List Nat) (ob ob':List (Option OB)):Prop:=∀r ∈ rs,ob'[r]?=ob[r]?
theorem Agree.mono {rs rs':List Nat} {ob ob':List (Option OB)} (h:Agree rs ob ob') (hs :∀r ∈ rs',r ∈ rs):Agree rs' ob ob':=fun r hr=>h r (hs r hr)
theorem findO_x {ob:List (Option OB)} {r:Nat} {K:OB→Prop} (h:findO ob r K) :∃o,K o∧∀ob':List (Option OB),ob'[r]?=ob[r]?→∀K':OB→Prop,K' o→findO ob' r K':=by
 rw [findO_iff] at h
 obtain ⟨o,ho,h⟩:=h
 refine ⟨o,h,fun ob' ha K' hK=>(findO_iff _ _ _).2 ⟨o,?_,hK⟩⟩
 rw [List.getD_eq_getElem?_getD] at ho ⊢
 rw [ha];exact ho
theorem noO_x {ob ob':List (Option OB)} {r:Nat} {P Q:Prop} (h:noO ob r P) (ha:ob'[r]?=ob[r]?) (hq:Q):noO ob' r Q:=by
 rw [noO_iff] at h ⊢
 exact ⟨ha.trans h.1,hq⟩
theorem force_x {a:AV} {K:AV→Prop} (h:a.force K) :∃v,K v∧∀K':AV→Prop,K' v→a.force K':=⟨a,(force_iff _ _).1 h,fun K' hK=>(force_iff _ _).2 hK⟩
theorem binK_x {T:TT} {op:BinOp} {t:Nat} {x y:AV} {K:AV→Prop} (h:binK T op t x y K) :∃v,K v∧∀K':AV→Prop,K' v→binK T op t x y K':=by
 simp only [binK_eq] at h ⊢
 unfold binK0 at h ⊢
 split at h
 ·obtain ⟨h1,r,h2,h3⟩:=h;exact ⟨_,h3,fun K' hK=>⟨h1,r,h2,hK⟩⟩
 ·obtain ⟨h1,r,h2,h3⟩:=h;exact ⟨_,h3,fun K' hK=>⟨h1,r,h2,hK⟩⟩
 ·exact ⟨_,h,fun K' hK=>hK⟩
 ·exact ⟨_,h,fun K' hK=>hK⟩
 ·exact ⟨_,h.2,fun K' hK=>⟨h.1,hK⟩⟩
 ·exact ⟨_,h,fun K' hK=>hK⟩
 ·exact ⟨_,h,fun K' hK=>hK⟩
 ·rw [onlyIf_iff] at h
  obtain ⟨h0,h⟩:=h
  cases op<;>simp only at h
  case add=>obtain ⟨r,h2,h3⟩:=h;exact ⟨_,h3,fun K' hK=>(onlyIf_iff _ _).2 ⟨h0,r,h2,hK⟩⟩
  case sub=>obtain ⟨r,h2,h3⟩:=h;exact ⟨_,h3,fun K' hK=>(onlyIf_iff _ _).2 ⟨h0,r,h2,hK⟩⟩
  case mul=>obtain ⟨r,h2,h3⟩:=h;exact ⟨_,h3,fun K' hK=>(onlyIf_iff _ _).2 ⟨h0,r,h2,hK⟩⟩
  case quo=>obtain ⟨h1,r,h2,h3⟩:=h;exact ⟨_,h3,fun K' hK=>(onlyIf_iff _ _).2 ⟨h0,h1,r,h2,hK⟩⟩
  case rem=>obtain ⟨h1,r,h2,h3⟩:=h;exact ⟨_,h3,fun K' hK=>(onlyIf_iff _ _).2 ⟨h0,h1,r,h2,hK⟩⟩
  case and=>obtain ⟨r,h2,h3⟩:=h;exact ⟨_,h3,fun K' hK=>(onlyIf_iff _ _).2 ⟨h0,r,h2,hK⟩⟩
  case or=>obtain ⟨r,h2,h3⟩:=h;exact ⟨_,h3,fun K' hK=>(onlyIf_iff _ _).2 ⟨h0,r,h2,hK⟩⟩
  case xor=>obtain ⟨r,h2,h3⟩:=h;exact ⟨_,h3,fun K' hK=>(onlyIf_iff _ _).2 ⟨h0,r,h2,hK⟩⟩
  case andNot=>obtain ⟨r,h2,h3⟩:=h;exact ⟨_,h3,fun K' hK=>(onlyIf_iff _ _).2 ⟨h0,r,h2,hK⟩⟩
  case eql=>exact ⟨_,h,fun K' hK=>(onlyIf_iff _ _).2 ⟨h0,hK⟩⟩
  case neq=>exact ⟨_,h,fun K' hK=>(onlyIf_iff _ _).2 ⟨h0,hK⟩⟩
  case lss=>exact ⟨_,h,fun K' hK=>(onlyIf_iff _ _).2 ⟨h0,hK⟩⟩
  case leq=>exact ⟨_,h,fun K' hK=>(onlyIf_iff _ _).2 ⟨h0,hK⟩⟩
  case gtr=>exact ⟨_,h,fun K' hK=>(onlyIf_iff _ _).2 ⟨h0,hK⟩⟩
  case geq=>exact ⟨_,h,fun K' hK=>(onlyIf_iff _ _).2 ⟨h0,hK⟩⟩
  all_goals exact h.elim
 ·split at h
  ·exact ⟨_,h,fun K' hK=>hK⟩
  ·exact h.elim
 ·split at h
  ·exact ⟨_,h,fun K' hK=>hK⟩
  ·exact h.elim
 ·exact h.elim
theorem unK_x {op:UnOp} {x:AV} {K:AV→Prop} (h:unK op x K) :∃v,K v∧∀K':AV→Prop,K' v→unK op x K':=by
 unfold unK at h ⊢
 split at h
 ·exact ⟨_,h,fun K' hK=>hK⟩
 ·obtain ⟨r,h2,h3⟩:=h;exact ⟨_,h3,fun K' hK=>⟨r,h2,hK⟩⟩
 ·exact h.elim
theorem pickK_x {c a b:AV} {K:AV→Prop} (h:pickK c a b K) :∃v,K v∧∀K':AV→Prop,K' v→pickK c a b K':=by
 unfold pickK at h ⊢
 split at h
 ·split at h
  ·exact ⟨_,h,fun K' hK=>hK⟩
  ·rename_i t _ _ hne
   cases t with
   | true=>obtain ⟨v,h1,h2⟩:=force_x h;exact ⟨v,h1,fun K' hK=>h2 K' hK⟩
   | false=>obtain ⟨v,h1,h2⟩:=force_x h;exact ⟨v,h1,fun K' hK=>h2 K' hK⟩
 ·exact h.elim
theorem rowLoadK_x {T:TT} {t n i k:Nat} {es:List D} {K:AV→Prop} (h:rowLoadK T t n i k es K) :∃v,K v∧∀K':AV→Prop,K' v→rowLoadK T t n i k es K':=by
 unfold rowLoadK at h ⊢
 simp only [dropK_iff] at h
 obtain ⟨hn,x,hx,h⟩:=h
 cases hcl:(T.get t).kind.cls with
 | none=>simp [hcl] at h
 | some q=>
  cases q with
  | true=>
   simp only [hcl,onlyIf_iff,takeK_iff] at h
   exact ⟨_,h.2,fun K' hK=>⟨hn,x,hx,by simp only [dropK_iff,onlyIf_iff,takeK_iff];exact ⟨h.1,hK⟩⟩⟩
  | false=>
   simp only [hcl] at h
   cases hg:(x.cells.drop k)[0]? with
   | none=>simp [hg] at h
   | some y=>
    simp only [hg] at h
    exact ⟨_,h,fun K' hK=>⟨hn,x,hx,by simp only [dropK_iff,hg];exact hK⟩⟩
theorem loadK_x {T:TT} {t:Nat} {a:AV} {ob:List (Option OB)} {K:AV→Prop} (h:loadK T t a ob K) :
  ∃v,K v∧∀ob',Agree a.refs ob ob'→∀K':AV→Prop,K' v→loadK T t a ob' K':=by
 cases a<;>simp only [loadK] at h ⊢
 case ref r off=>
  obtain ⟨o,h,ho⟩:=findO_x h
  cases o with
  | row=>exact h.elim
  | map=>exact h.elim
  | amap=>exact h.elim
  | gone=>exact h.elim
  | box cs=>
   simp only at h
   cases hcl:(T.get t).kind.cls with
   | none=>simp [hcl] at h
   | some q=>
    cases q with
    | true=>
     simp only [hcl,dropK_iff,onlyIf_iff,takeK_iff,aggOf_iff] at h
     exact ⟨_,h.2,fun ob' ha K' hK=>ho ob' (ha r (by simp [AV.refs])) _ (by simp only [dropK_iff,onlyIf_iff,takeK_iff,aggOf_iff];exact ⟨h.1,hK⟩)⟩
    | false=>
     simp only [hcl] at h
     cases hg:cs[off]? with
     | none=>simp [hg] at h
     | some x=>
      simp only [hg] at h
      obtain ⟨v,h1,h2⟩:=force_x h
      exact ⟨v,h1,fun ob' ha K' hK=>ho ob' (ha r (by simp [AV.refs])) _ (by simp only [hg];exact h2 K' hK)⟩
 case eref cs=>
  cases hcl:(T.get t).kind.cls with
  | none=>simp [hcl] at h
  | some q=>
   cases q with
   | true=>
    simp only [hcl,onlyIf_iff,takeK_iff] at h
    exact ⟨_,h.2,fun ob' _ K' hK=>by simp only [onlyIf_iff,takeK_iff];exact ⟨h.1,hK⟩⟩
   | false=>
    simp only [hcl] at h
    cases hg:cs[0]? with
    | none=>simp [hg] at h
    | some x=>
     simp only [hg] at h
     exact ⟨_,h,fun ob' _ K' hK=>hK⟩
 case rref r n i k=>
  obtain ⟨o,h,ho⟩:=findO_x h
  cases o with
  | box cs=>
   simp only at h
   cases hcl:(T.get t).kind.cls with
   | none=>simp [hcl] at h
   | some q=>
    cases q with
    | true=>simp [hcl] at h
    | false=>
     simp only [hcl,force_iff] at h
     obtain ⟨x,hg,h⟩:=h
     exact ⟨_,h,fun ob' ha K' hK=>ho ob' (ha r (by simp [AV.refs])) _ ⟨x,hg,(force_iff _ _).2 hK⟩⟩
  | map=>exact h.elim
  | amap=>exact h.elim
  | gone=>exact h.elim
  | row e sz es frz=>
   cases frz with
   | no=>
    obtain ⟨v,h1,h2⟩:=rowLoadK_x h
    exact ⟨v,h1,fun ob' ha K' hK=>ho ob' (ha r (by simp [AV.refs])) _ (h2 K' hK)⟩
   | yes=>
    obtain ⟨v,h1,h2⟩:=rowLoadK_x h
    exact ⟨v,h1,fun ob' ha K' hK=>ho ob' (ha r (by simp [AV.refs])) _ (h2 K' hK)⟩
   | lk i' j' q m=>
    rcases h with h | ⟨g1,g2,g3,g4,g5,g6,h⟩
    ·obtain ⟨v,h1,h2⟩:=rowLoadK_x h
     exact ⟨v,h1,fun ob' ha K' hK=>ho ob' (ha r (by simp [AV.refs])) _ (.inl (h2 K' hK))⟩
    ·exact ⟨_,h,fun ob' ha K' hK=>ho ob' (ha r (by simp [AV.refs])) _ (.inr ⟨g1,g2,g3,g4,g5,g6,hK⟩)⟩
theorem toD_x {ob:List (Option OB)} {a:AV} {K:D→W→Prop} (h:toD ob a K) :
  ∃x w,K x w∧(∀q ∈ w,q.1 ∈ a.refs)∧∀ob',Agree a.refs ob ob'→∀K':D→W→Prop,K' x w→toD ob' a K':=by
 cases a<;>simp only [toD] at h ⊢
 case d x=>exact ⟨_,_,(normK_iff _ _).1 h,fun q hq=>by simp at hq,fun ob' _ K' hK=>(normK_iff _ _).2 hK⟩
 case own r n=>
  obtain ⟨o,h,ho⟩:=findO_x h
  cases o with
  | box=>exact h.elim
  | map=>exact h.elim
  | amap=>exact h.elim
  | gone=>exact h.elim
  | row e sz es f=>exact ⟨_,_,h.2,fun q hq=>by simp only [List.mem_singleton] at hq;simp [hq,AV.refs],fun ob' ha K' hK=>ho ob' (ha r (by simp [AV.refs])) _ ⟨h.1,hK⟩⟩
 case agg cs=>
  have key :∀(cs:List AV) (K:List D→W→Prop),toD.toDs ob cs K→∃l w,K l w∧(∀q ∈ w,q.1 ∈ AV.refs.refsL cs)∧∀ob',Agree (AV.refs.refsL cs) ob ob'→∀K':List D→W→Prop,K' l w→toD.toDs ob' cs K':=by
   intro cs
   induction cs with
   | nil=>intro K h;exact ⟨_,_,h,fun q hq=>by simp at hq,fun ob' _ K' hK=>hK⟩
   | cons c cs ih=>
    intro K h
    cases c<;>simp only [toD.toDs] at h ⊢
    case d x=>
     cases x with
     | agg=>exact h.elim
     | val u=>obtain ⟨l,w,h1,hq,h2⟩:=ih _ h;exact ⟨_,w,h1,fun q hm=>by simp [AV.refs.refsL,hq q hm],fun ob' ha K' hK=>h2 ob' (ha.mono fun r hr=>by simp [AV.refs.refsL,hr]) _ hK⟩
     | nil sz=>obtain ⟨l,w,h1,hq,h2⟩:=ih _ h;exact ⟨_,w,h1,fun q hm=>by simp [AV.refs.refsL,hq q hm],fun ob' ha K' hK=>h2 ob' (ha.mono fun r hr=>by simp [AV.refs.refsL,hr]) _ hK⟩
     | lst sz es=>obtain ⟨l,w,h1,hq,h2⟩:=ih _ h;exact ⟨_,w,h1,fun q hm=>by simp [AV.refs.refsL,hq q hm],fun ob' ha K' hK=>h2 ob' (ha.mono fun r hr=>by simp [AV.refs.refsL,hr]) _ hK⟩
    case fn g caps=>
     cases caps with
     | cons=>exact h.elim
     | nil=>obtain ⟨l,w,h1,hq,h2⟩:=ih _ h;exact ⟨_,w,h1,fun q hm=>by simp [AV.refs.refsL,hq q hm],fun ob' ha K' hK=>h2 ob' (ha.mono fun r hr=>by simp [AV.refs.refsL,hr]) _ hK⟩
    case own r n=>
     obtain ⟨o,h,ho⟩:=findO_x h
     cases o with
     | box=>exact h.elim
     | map=>exact h.elim
     | amap=>exact h.elim
     | gone=>exact h.elim
     | row e sz es f=>
      obtain ⟨hn,h⟩:=h
      obtain ⟨l,w,h1,hq,h2⟩:=ih _ h
      refine ⟨_,_,h1,fun q hm=>?_,fun ob' ha K' hK=>ho ob' (ha r (by simp [AV.refs.refsL,AV.refs])) _ ⟨hn,h2 ob' (ha.mono fun r hr=>by simp [AV.refs.refsL,hr]) _ hK⟩⟩
      simp only [List.mem_cons] at hm
      rcases hm with hm | hm
      ·simp [hm,AV.refs.refsL,AV.refs]
      ·simp [AV.refs.refsL,hq q hm]
  obtain ⟨l,w,h1,hq,h2⟩:=key cs _ h
  exact ⟨_,w,h1,hq,fun ob' ha K' hK=>h2 ob' ha _ hK⟩
theorem rowStoreK_x {y x:D} {k:Nat} {K:D→Prop} (h:rowStoreK y k x K) :∃z,K z∧∀K':D→Prop,K' z→rowStoreK y k x K':=by
 unfold rowStoreK at h ⊢
 simp only [normK_iff,overK_iff] at h ⊢
 obtain ⟨h0,h⟩:=h
 split at h
 ·exact ⟨_,h,fun K' hK=>⟨h0,hK⟩⟩
 ·split at h
  ·rw [onlyIf_iff] at h
   exact ⟨_,h.2,fun K' hK=>⟨h0,(onlyIf_iff _ _).2 ⟨h.1,hK⟩⟩⟩
  ·exact h.elim
theorem storeK_x {T:TT} {t:Nat} {a x:AV} {ob:List (Option OB)} {K:AV→W→Prop} (h:storeK T t a x ob K) :
  ∃v w,K v w∧(∀q ∈ w,q.1 ∈ a.refs)∧∀ob',Agree a.refs ob ob'→∀K':AV→W→Prop,K' v w→storeK T t a x ob' K':=by
 unfold storeK at h ⊢
 rw [onlyIf_iff] at h
 obtain ⟨h0,h⟩:=h
 split at h
 ·rename_i r off
  obtain ⟨o,h,ho⟩:=findO_x h
  cases o with
  | row=>exact h.elim
  | map=>exact h.elim
  | amap=>exact h.elim
  | gone=>exact h.elim
  | box cs=>
   simp only [cellsK_iff,onlyIf_iff,overK_iff] at h
   obtain ⟨l,hl,hsz,hle,h⟩:=h
   exact ⟨_,_,h,fun q hq=>by simp only [List.mem_singleton] at hq;simp [hq,AV.refs],fun ob' ha K' hK=>(onlyIf_iff _ _).2 ⟨h0,ho ob' (ha r (by simp [AV.refs])) _ (by simp only [cellsK_iff,onlyIf_iff,overK_iff];exact ⟨l,hl,hsz,hle,hK⟩)⟩⟩
 ·rename_i r n i k
  obtain ⟨o,h,ho⟩:=findO_x h
  cases o with
  | box=>exact h.elim
  | map=>exact h.elim
  | amap=>exact h.elim
  | gone=>exact h.elim
  | row e sz es f=>
   simp only at h
   obtain ⟨hn,hf,h⟩:=h
   cases x<;>simp only at h
   case d x=>
    rw [onlyIf_iff] at h
    obtain ⟨hsz,y,hy,h⟩:=h
    obtain ⟨z,⟨zs,hzs,h⟩,hz⟩:=rowStoreK_x h
    exact ⟨_,_,h,fun q hq=>by simp only [List.mem_singleton] at hq;simp [hq,AV.refs],fun ob' ha K' hK=>(onlyIf_iff _ _).2 ⟨h0,ho ob' (ha r (by simp [AV.refs])) _ ⟨hn,hf,(onlyIf_iff _ _).2 ⟨hsz,y,hy,hz _ ⟨zs,hzs,hK⟩⟩⟩⟩⟩
 ·exact h.elim
theorem storeLinkK_x {T:TT} {t r n i k q m:Nat} {ob:List (Option OB)} {K:AV→W→Prop} (h:storeLinkK T t r n i k q m ob K) :
  ∃v w,K v w∧(∀p ∈ w,p.1 ∈ [r,q])∧∀ob',Agree [r,q] ob ob'→∀K':AV→W→Prop,K' v w→storeLinkK T t r n i k q m ob' K':=by
 unfold storeLinkK at h ⊢
 rw [onlyIf_iff] at h
 obtain ⟨h0,h⟩:=h
 obtain ⟨d,w,h,hq,hd⟩:=toD_x h
 rw [onlyIf_iff] at h
 obtain ⟨h1,h⟩:=h
 obtain ⟨o,h,ho⟩:=findO_x h
 cases o with
 | box=>exact h.elim
 | map=>exact h.elim
 | amap=>exact h.elim
 | gone=>exact h.elim
 | row e sz es f=>
  simp only [onlyIf_iff] at h
  obtain ⟨hn,hf,hsz,y,hy,h⟩:=h
  obtain ⟨z,⟨zs,hzs,h⟩,hz⟩:=rowStoreK_x h
  refine ⟨_,_,h,fun p hp=>?_,fun ob' ha K' hK=>(onlyIf_iff _ _).2 ⟨h0,hd ob' (ha.mono fun x hx=>by simp only [AV.refs,List.mem_singleton] at hx;simp [hx]) _ ((onlyIf_iff _ _).2 ⟨h1,ho ob' (ha r (by simp)) _ ⟨hn,hf,(onlyIf_iff _ _).2 ⟨hsz,y,hy,hz _ ⟨zs,hzs,hK⟩⟩⟩⟩)⟩⟩
  rcases List.mem_append.1 hp with hp | hp
  ·have:=hq p hp
   simp only [AV.refs,List.mem_singleton] at this
   simp [this]
  ·simp only [List.mem_singleton] at hp
   simp [hp]
theorem storeOwnK_x {T:TT} {t r n i k:Nat} {x:AV} {ob:List (Option OB)} {K:AV→W→Prop} (h:storeOwnK T t r n i k x ob K) :
  ∃v w,K v w∧(∀p ∈ w,p.1 ∈ r::x.refs)∧∀ob',Agree (r::x.refs) ob ob'→∀K':AV→W→Prop,K' v w→storeOwnK T t r n i k x ob' K':=by
 unfold storeOwnK at h ⊢
 rw [onlyIf_iff] at h
 obtain ⟨h0,h⟩:=h
 obtain ⟨d,w,h,hq,hd⟩:=toD_x h
 rw [onlyIf_iff] at h
 obtain ⟨h1,h⟩:=h
 obtain ⟨o,h,ho⟩:=findO_x h
 cases o with
 | box=>exact h.elim
 | map=>exact h.elim
 | amap=>exact h.elim
 | gone=>exact h.elim
 | row e sz es f=>
  simp only [onlyIf_iff] at h
  obtain ⟨hn,hf,hsz,y,hy,h⟩:=h
  obtain ⟨z,⟨zs,hzs,h⟩,hz⟩:=rowStoreK_x h
  refine ⟨_,_,h,fun p hp=>?_,fun ob' ha K' hK=>(onlyIf_iff _ _).2 ⟨h0,hd ob' (ha.mono fun x hx=>by simp [hx]) _ ((onlyIf_iff _ _).2 ⟨h1,ho ob' (ha r (by simp)) _ ⟨hn,hf,(onlyIf_iff _ _).2 ⟨hsz,y,hy,hz _ ⟨zs,hzs,hK⟩⟩⟩⟩)⟩⟩
  rcases List.mem_append.1 hp with hp | hp
  ·exact List.mem_cons_of_mem _ (hq p hp)
  ·simp only [List.mem_singleton] at hp
   simp [hp]
theorem storeG_x {T:TT} {t:Nat} {a x:AV} {ob:List (Option OB)} {K:AV→W→Prop} (h:storeG T t a x ob K) :
  ∃v w,K v w∧(∀q ∈ w,q.1 ∈ a.refs ++ x.refs)∧∀ob',Agree (a.refs ++ x.refs) ob ob'→∀K':AV→W→Prop,K' v w→storeG T t a x ob' K':=by
 rcases storeG_cases h with ⟨r,n,i,k,q,m,rfl,rfl,h⟩ | ⟨r,n,i,k,cs,rfl,rfl,h⟩ | ⟨h,hb⟩
 ·obtain ⟨v,w,h1,h2,h3⟩:=storeLinkK_x h
  exact ⟨v,w,h1,fun p hp=>by simpa [AV.refs] using h2 p hp,fun ob' ha K' hK=>by
   unfold storeG
   exact h3 ob' (ha.mono fun r hr=>by simpa [AV.refs] using hr) K' hK⟩
 ·obtain ⟨v,w,h1,h2,h3⟩:=storeOwnK_x h
  exact ⟨v,w,h1,fun p hp=>by simpa [AV.refs] using h2 p hp,fun ob' ha K' hK=>by
   unfold storeG
   exact h3 ob' (ha.mono fun r hr=>by simpa [AV.refs] using hr) K' hK⟩
 ·obtain ⟨v,w,h1,h2,h3⟩:=storeK_x h
  exact ⟨v,w,h1,fun p hp=>List.mem_append.2 (.inl (h2 p hp)),fun ob' ha K' hK=>hb ob' K' (h3 ob' (ha.mono fun r hr=>List.mem_append.2 (.inl hr)) K' hK)⟩
theorem go_x (place:Nat→Option (Nat×Nat)) :∀(ps:List (Nat×AV)) (cs:List AV) {K:List AV→Prop},buildK.go place ps cs K→∃l,K l∧∀K':List AV→Prop,K' l→buildK.go place ps cs K'
 | [],cs,K,h=>⟨_,h,fun K' hK=>hK⟩
 | (i,v)::ps,cs,K,h=>by
  simp only [buildK.go] at h ⊢
  cases hp:place i with
  | none=>simp [hp] at h
  | some q=>
   obtain ⟨off,size⟩:=q
   simp only [hp,cellsK_iff,onlyIf_iff,overK_iff] at h ⊢
   obtain ⟨l,hl,hsz,hle,h⟩:=h
   obtain ⟨l',h1,h2⟩:=go_x place ps _ h
   exact ⟨l',h1,fun K' hK=>⟨l,hl,hsz,hle,h2 K' hK⟩⟩
theorem buildK_x {T:TT} {t:Nat} {ps:List (Nat×AV)} {K:AV→Prop} (h:buildK T t ps K) :∃v,K v∧∀K':AV→Prop,K' v→buildK T t ps K':=by
 unfold buildK at h ⊢
 split at h
 ·obtain ⟨l,h1,h2⟩:=go_x _ _ _ h
  rw [aggOf_iff] at h1
  exact ⟨_,h1,fun K' hK=>h2 _ ((aggOf_iff _ _).2 hK)⟩
 ·rw [onlyIf_iff] at h
  obtain ⟨h0,h⟩:=h
  obtain ⟨l,h1,h2⟩:=go_x _ _ _ h
  rw [aggOf_iff] at h1
  exact ⟨_,h1,fun K' hK=>(onlyIf_iff _ _).2 ⟨h0,h2 _ ((aggOf_iff _ _).2 hK)⟩⟩
 ·exact h.elim
theorem elems_x {ob:List (Option OB)} {sz:Nat} :∀{ps:List (Nat×AV)} {i:Nat} {K:List D→W→Prop},buildRowK.elems ob sz i ps K→
  ∃l w,K l w∧(∀q ∈ w,q.1 ∈ AV.refs.refsL (ps.map (·.2)))∧∀ob',Agree (AV.refs.refsL (ps.map (·.2))) ob ob'→∀K':List D→W→Prop,K' l w→buildRowK.elems ob' sz i ps K'
 | [],i,K,h=>⟨_,_,h,fun q hq=>by simp at hq,fun ob' _ K' hK=>hK⟩
 | (j,v)::ps,i,K,h=>by
  simp only [buildRowK.elems] at h ⊢
  cases hb:Nat.beq i j with
  | false=>simp [hb] at h
  | true=>
   simp only [hb] at h ⊢
   obtain ⟨x,w,h,hq1,hx⟩:=toD_x h
   rw [onlyIf_iff] at h
   obtain ⟨hsz,h⟩:=h
   obtain ⟨l,w',h1,hq2,h2⟩:=elems_x h
   exact ⟨_,_,h1,fun q hm=>by
    simp only [List.map_cons,AV.refs.refsL,List.mem_append]
    rcases List.mem_append.1 hm with hm | hm
    ·exact .inl (hq1 q hm)
    ·exact .inr (hq2 q hm),fun ob' ha K' hK=>hx ob' (ha.mono fun r hr=>by simp [AV.refs.refsL,hr]) _ ((onlyIf_iff _ _).2 ⟨hsz,h2 ob' (ha.mono fun r hr=>by simp only [List.map_cons,AV.refs.refsL,List.mem_append];exact .inr hr) _ hK⟩)⟩
theorem buildRowK_x {T:TT} {t len self:Nat} {ps:List (Nat×AV)} {ob:List (Option OB)} {K:AV→W→Prop} (h:buildRowK T t len self ps ob K) :
  ∃v w,K v w∧(∀q ∈ w,q.1 ∈ self::AV.refs.refsL (ps.map (·.2)))∧∀ob',Agree (self::AV.refs.refsL (ps.map (·.2))) ob ob'→∀K':AV→W→Prop,K' v w→buildRowK T t len self ps ob' K':=by
 unfold buildRowK at h ⊢
 split at h
 ·have h0:=h
  rw [noO_iff,onlyIf_iff,onlyIf_iff] at h
  obtain ⟨hs,hc,hk,h⟩:=h
  obtain ⟨l,w,h1,hq,h2⟩:=elems_x h
  rw [onlyIf_iff] at h1
  exact ⟨_,_,h1.2,fun q hm=>by
   rcases List.mem_append.1 hm with hm | hm
   ·exact List.mem_cons_of_mem _ (hq q hm)
   ·simp only [List.mem_singleton] at hm;simp [hm],fun ob' ha K' hK=>noO_x h0 (ha self (by simp)) ((onlyIf_iff _ _).2 ⟨hc,(onlyIf_iff _ _).2 ⟨hk,h2 ob' (ha.mono fun r hr=>by simp [hr]) _ ((onlyIf_iff _ _).2 ⟨h1.1,hK⟩)⟩⟩)⟩
 ·exact h.elim
theorem buildBoxK_x {T:TT} {t len self:Nat} {cs:List AV} {ob:List (Option OB)} {K:AV→W→Prop} (h:buildBoxK T t len self cs ob K) :
  ∃v w,K v w∧(∀q ∈ w,q.1 ∈ [self])∧∀ob',Agree [self] ob ob'→∀K':AV→W→Prop,K' v w→buildBoxK T t len self cs ob' K':=by
 unfold buildBoxK at h ⊢
 split at h
 ·have h0:=h
  rw [noO_iff,onlyIf_iff] at h
  obtain ⟨hs,hc,hK⟩:=h
  exact ⟨_,_,hK,fun q hm=>by simp only [List.mem_singleton] at hm;simp [hm],fun ob' ha K' hK'=>noO_x h0 (ha self (by simp)) ((onlyIf_iff _ _).2 ⟨hc,hK'⟩)⟩
 ·exact h.elim
theorem buildLinkK_x {T:TT} {t len self:Nat} {cs:List AV} {ob:List (Option OB)} {K:AV→W→Prop} (h:buildLinkK T t len self cs ob K) :
  ∃v w,K v w∧(∀q ∈ w,q.1 ∈ self::(AV.agg cs).refs)∧∀ob',Agree (self::(AV.agg cs).refs) ob ob'→∀K':AV→W→Prop,K' v w→buildLinkK T t len self cs ob' K':=by
 unfold buildLinkK at h ⊢
 split at h
 ·have h0:=h
  rw [noO_iff,onlyIf_iff] at h
  obtain ⟨hs,hc,j,q,m,hj,h⟩:=h
  obtain ⟨d,w,h,hq,hd⟩:=toD_x h
  rw [onlyIf_iff] at h
  obtain ⟨hw,h⟩:=h
  refine ⟨_,_,h,fun p hp=>?_,fun ob' ha K' hK=>noO_x h0 (ha self (by simp)) ((onlyIf_iff _ _).2 ⟨hc,j,q,m,hj,hd ob' (ha.mono fun r hr=>by simp [hr]) _ ((onlyIf_iff _ _).2 ⟨hw,hK⟩)⟩)⟩
  rcases List.mem_append.1 hp with hp | hp
  ·exact List.mem_cons_of_mem _ (hq p hp)
  ·simp only [List.mem_singleton] at hp;simp [hp]
 ·exact h.elim
theorem buildSliceK_x {T:TT} {t len self:Nat} {ps:List (Nat×AV)} {ob:List (Option OB)} {K:AV→W→Prop} (h:buildSliceK T t len self ps ob K) :
  ∃v w,K v w∧(∀q ∈ w,q.1 ∈ self::AV.refs.refsL (ps.map (·.2)))∧∀ob',Agree (self::AV.refs.refsL (ps.map (·.2))) ob ob'→∀K':AV→W→Prop,K' v w→buildSliceK T t len self ps ob' K':=by
 unfold buildSliceK at h ⊢
 split at h
 ·rcases h with h | h
  ·obtain ⟨v,w,h1,h2,h3⟩:=buildRowK_x h
   exact ⟨v,w,h1,h2,fun ob' ha K' hK=>.inl (h3 ob' ha K' hK)⟩
  ·rcases h with h | h
   ·obtain ⟨v,w,h1,h2,h3⟩:=buildBoxK_x h
    exact ⟨v,w,h1,fun q hq=>by have:=h2 q hq;simp only [List.mem_singleton] at this;simp [this],fun ob' ha K' hK=>.inr (.inl (h3 ob' (ha.mono fun r hr=>by simp only [List.mem_singleton] at hr;simp [hr]) K' hK))⟩
   ·obtain ⟨v,w,h1,h2,h3⟩:=buildLinkK_x h
    exact ⟨v,w,h1,fun q hq=>by simpa [AV.refs.refsL] using h2 q hq,fun ob' ha K' hK=>.inr (.inr (h3 ob' (ha.mono fun r hr=>by simpa [AV.refs.refsL] using hr) K' hK))⟩
 ·exact buildRowK_x h
theorem srcK0_x {ob:List (Option OB)} {y:AV} {K:Nat→List D→Prop} (h:srcK0 ob y K) :∃sz es,K sz es∧∀ob',Agree y.refs ob ob'→∀K':Nat→List D→Prop,K' sz es→srcK0 ob' y K':=by
 unfold srcK0 at h ⊢
 split at h
 ·exact ⟨_,_,h,fun ob' _ K' hK=>hK⟩
 ·exact ⟨_,_,h,fun ob' _ K' hK=>hK⟩
 ·rename_i r n
  obtain ⟨o,h,ho⟩:=findO_x h
  cases o with
  | box=>exact h.elim
  | map=>exact h.elim
  | amap=>exact h.elim
  | gone=>exact h.elim
  | row e sz es f=>exact ⟨_,_,h.2,fun ob' ha K' hK=>ho ob' (ha r (by simp [AV.refs])) _ ⟨h.1,hK⟩⟩
 ·exact h.elim
theorem srcK_x {ob:List (Option OB)} {y:AV} {K:Nat→List D→Prop} (h:srcK ob y K) :∃sz es,K sz es∧∀ob',Agree y.refs ob ob'→∀K':Nat→List D→Prop,K' sz es→srcK ob' y K':=by
 unfold srcK at h ⊢
 split at h
 ·rename_i r a n m
  obtain ⟨o,h,ho⟩:=findO_x h
  cases o with
  | box=>exact h.elim
  | map=>exact h.elim
  | amap=>exact h.elim
  | gone=>exact h.elim
  | row e sz es f=>
   obtain ⟨h1,zs,h2,h⟩:=h
   exact ⟨_,_,h,fun ob' ha K' hK=>ho ob' (ha r (by simp [AV.refs])) _ ⟨h1,zs,h2,hK⟩⟩
 ·exact srcK0_x h
theorem apFZ_x {ob:List (Option OB)} {y:AV} {k sz:Nat} {frz:FZ} {K:FZ→Prop} (h:apFZ ob y k sz frz K) :
  ∃f,K f∧∀ob',Agree y.refs ob ob'→∀K':FZ→Prop,K' f→apFZ ob' y k sz frz K':=by
 unfold apFZ at h ⊢
 split at h
 ·exact ⟨_,h,fun ob' _ K' hK=>hK⟩
 ·split at h
  ·rename_i q n
   have e :∀ob',Agree (AV.own q n).refs ob ob'→ob'.getD q none=ob.getD q none:=fun ob' ha=>by
    rw [List.getD_eq_getElem?_getD,List.getD_eq_getElem?_getD,ha q (by simp [AV.refs])]
   split at h
   ·rename_i e0 sz' ys i j q' m hq
    split at h
    ·rename_i hb
     exact ⟨_,h.2,fun ob' ha K' hK=>by simp only [e ob' ha,hq,hb];exact ⟨h.1,hK⟩⟩
    ·rename_i hb
     exact ⟨_,h,fun ob' ha K' hK=>by simp only [e ob' ha,hq,hb];exact hK⟩
   ·rename_i hn
    refine ⟨_,h,fun ob' ha K' hK=>?_⟩
    rw [e ob' ha]
    split
    ·rename_i hq
     exact absurd hq (hn _ _ _ _ _ _ _)
    ·exact hK
  ·exact ⟨_,h,fun ob' _ K' hK=>hK⟩
theorem appendK_x {T:TT} {st self:Nat} {x y:AV} {ob:List (Option OB)} {K:AV→W→Prop} (h:appendK T st self x y ob K) :
  ∃v w,K v w∧(∀q ∈ w,q.1 ∈ self::x.refs)∧∀ob',Agree (self::(x.refs ++ y.refs)) ob ob'→∀K':AV→W→Prop,K' v w→appendK T st self x y ob' K':=by
 unfold appendK at h ⊢
 split at h
 ·obtain ⟨sz',ys,h,hy⟩:=srcK_x h
  split at h
  ·have h0:=h
   rw [noO_iff,onlyIf_iff,onlyIf_iff] at h
   obtain ⟨hs,hc,hk,hb,h⟩:=h
   exact ⟨_,_,h,fun q hq=>by simp only [List.mem_singleton] at hq;simp [hq],fun ob' ha K' hK=>hy ob' (ha.mono fun r hr=>by simp [hr]) _ (noO_x h0 (ha self (by simp)) ((onlyIf_iff _ _).2 ⟨hc,(onlyIf_iff _ _).2 ⟨hk,hb,hK⟩⟩))⟩
  ·rename_i r n _
   obtain ⟨o,h,ho⟩:=findO_x h
   cases o with
   | box=>exact h.elim
   | map=>exact h.elim
   | amap=>exact h.elim
   | gone=>exact h.elim
   | row e' sz es f=>
    simp only [onlyIf_iff] at h
    obtain ⟨hc,hk,hn,hb,zs,hz,h⟩:=h
    obtain ⟨f',h,hf⟩:=apFZ_x h
    exact ⟨_,_,h,fun q hq=>by simp only [List.mem_singleton] at hq;simp [hq,AV.refs],fun ob' ha K' hK=>hy ob' (ha.mono fun r hr=>by simp [hr]) _ (ho ob' (ha r (by simp [AV.refs])) _ ((onlyIf_iff _ _).2 ⟨hc,(onlyIf_iff _ _).2 ⟨hk,hn,hb,zs,hz,hf ob' (ha.mono fun r hr=>by simp [hr]) _ hK⟩⟩))⟩
  ·rename_i r a n mm _
   obtain ⟨o,h,ho⟩:=findO_x h
   cases o with
   | box=>exact h.elim
   | map=>exact h.elim
   | amap=>exact h.elim
   | gone=>exact h.elim
   | row e' sz es f=>
    simp only [onlyIf_iff] at h
    obtain ⟨hc,hk,h⟩:=h
    have h0:=h
    rw [noO_iff] at h
    obtain ⟨hs,h1,h2,h3,h4,zs,hz,h⟩:=h
    exact ⟨_,_,h,fun q hq=>by
     simp only [List.mem_cons,List.not_mem_nil,or_false] at hq
     rcases hq with hq | hq<;>simp [hq,AV.refs],fun ob' ha K' hK=>hy ob' (ha.mono fun r hr=>by simp [hr]) _ (ho ob' (ha r (by simp [AV.refs])) _ ((onlyIf_iff _ _).2 ⟨hc,(onlyIf_iff _ _).2 ⟨hk,noO_x h0 (ha self (by simp)) ⟨h1,h2,h3,h4,zs,hz,hK⟩⟩⟩))⟩
  ·exact h.elim
 ·exact h.elim
theorem lenK_x {T:TT} {t:Nat} {x:AV} {K:AV→Prop} (h:lenK T t x K) :∃v,K v∧∀K':AV→Prop,K' v→lenK T t x K':=by
 unfold lenK at h ⊢
 split at h<;>first | exact ⟨_,h,fun K' hK=>hK⟩ | exact h.elim | (obtain ⟨n,hn,h⟩:=h;exact ⟨_,h,fun K' hK=>⟨n,hn,hK⟩⟩)
theorem lookK_x {T:TT} {t:Nat} {x key:AV} {ok:Bool} {ob:List (Option OB)} {K:AV→Prop} (h:lookK T t x key ok ob K) :
  ∃v,K v∧∀ob',Agree x.refs ob ob'→∀K':AV→Prop,K' v→lookK T t x key ok ob' K':=by
 unfold lookK at h ⊢
 split at h
 ·rename_i k e r kv hk
  rw [onlyIf_iff] at h
  obtain ⟨h0,h⟩:=h
  obtain ⟨o,h,ho⟩:=findO_x h
  cases o with
  | box=>exact h.elim
  | row=>exact h.elim
  | gone=>exact h.elim
  | amap k' e' es kv' r' n'=>
   rcases h with ⟨q,hq,v,hv,b,hb,h⟩ | ⟨h1,h2,h3,h4,h⟩
   ·exact ⟨_,h,fun ob' ha K' hK=>(onlyIf_iff _ _).2 ⟨h0,ho ob' (ha r (by simp [AV.refs])) _ (.inl ⟨q,hq,v,hv,b,hb,hK⟩)⟩⟩
   ·exact ⟨_,h,fun ob' ha K' hK=>(onlyIf_iff _ _).2 ⟨h0,ho ob' (ha r (by simp [AV.refs])) _ (.inr ⟨h1,h2,h3,h4,hK⟩)⟩⟩
  | map k' e' es=>
   simp only at h
   obtain ⟨q,hq,v,hv,b,hb,h⟩:=h
   exact ⟨_,h,fun ob' ha K' hK=>(onlyIf_iff _ _).2 ⟨h0,ho ob' (ha r (by simp [AV.refs])) _ ⟨q,hq,v,hv,b,hb,hK⟩⟩⟩
 ·exact h.elim
theorem loadG_x {T:TT} {G:Nat→Option (List (D×D))} {t:Nat} {a:AV} {ob:List (Option OB)} {K:AV→Prop} (h:loadG T G t a ob K) :
  ∃v,K v∧∀ob',Agree a.refs ob ob'→∀K':AV→Prop,K' v→loadG T G t a ob' K':=by
 unfold loadG at h ⊢
 split at h
 ·split at h
  ·exact ⟨_,h,fun ob' _ K' hK=>hK⟩
  ·exact h.elim
 ·exact loadK_x h
theorem lookG_x {T:TT} {G:Nat→Option (List (D×D))} {t:Nat} {x key:AV} {ok:Bool} {ob:List (Option OB)} {K:AV→Prop} (h:lookG T G t x key ok ob K) :
  ∃v,K v∧∀ob',Agree x.refs ob ob'→∀K':AV→Prop,K' v→lookG T G t x key ok ob' K':=by
 unfold lookG at h ⊢
 split at h
 ·unfold lookC at h ⊢
  split at h
  ·rw [onlyIf_iff] at h
   obtain ⟨h0,q,hq,v,hv,b,hb,h⟩:=h
   exact ⟨_,h,fun ob' _ K' hK=>(onlyIf_iff _ _).2 ⟨h0,q,hq,v,hv,b,hb,hK⟩⟩
  ·exact h.elim
 ·exact lookK_x h
theorem mapSetK_x {T:TT} {t:Nat} {x key v:AV} {ob:List (Option OB)} {K:AV→W→Prop} (h:mapSetK T t x key v ob K) :
  ∃u w,K u w∧(∀q ∈ w,q.1 ∈ x.refs ++ v.refs)∧∀ob',Agree (x.refs ++ v.refs) ob ob'→∀K':AV→W→Prop,K' u w→mapSetK T t x key v ob' K':=by
 unfold mapSetK at h ⊢
 split at h
 ·rename_i k e r kv hk
  rw [onlyIf_iff] at h
  obtain ⟨h0,h⟩:=h
  obtain ⟨d,w,h,hq,hd⟩:=toD_x h
  rw [onlyIf_iff] at h
  obtain ⟨h1,h⟩:=h
  obtain ⟨o,h,ho⟩:=findO_x h
  cases o with
  | box=>exact h.elim
  | row=>exact h.elim
  | gone=>exact h.elim
  | map k' e' es=>
   simp only at h
   obtain ⟨zs,hz,h⟩:=h
   refine ⟨_,_,h,fun q hm=>?_,fun ob' ha K' hK=>(onlyIf_iff _ _).2 ⟨h0,hd ob' (ha.mono fun r hr=>by simp [hr]) _ ((onlyIf_iff _ _).2 ⟨h1,ho ob' (ha r (by simp [AV.refs])) _ ⟨zs,hz,hK⟩⟩)⟩⟩
   rcases List.mem_append.1 hm with hm | hm
   ·exact List.mem_append_right _ (hq q hm)
   ·simp only [List.mem_singleton] at hm
    rw [hm]
    simp [AV.refs]
  | amap k' e' es _ _ _=>
   simp only at h
   obtain ⟨zs,hz,h⟩:=h
   refine ⟨_,_,h,fun q hm=>?_,fun ob' ha K' hK=>(onlyIf_iff _ _).2 ⟨h0,hd ob' (ha.mono fun r hr=>by simp [hr]) _ ((onlyIf_iff _ _).2 ⟨h1,ho ob' (ha r (by simp [AV.refs])) _ ⟨zs,hz,hK⟩⟩)⟩⟩
   rcases List.mem_append.1 hm with hm | hm
   ·exact List.mem_append_right _ (hq q hm)
   ·simp only [List.mem_singleton] at hm
    rw [hm]
    simp [AV.refs]
 ·exact h.elim
theorem mapSetA_x {T:TT} {t r0 n0:Nat} {x key:AV} {ob:List (Option OB)} {K:AV→W→Prop} (h:mapSetA T t x key r0 n0 ob K) :
  ∃u w,K u w∧(∀q ∈ w,q.1 ∈ x.refs ++ (AV.own r0 n0).refs)∧∀ob',Agree (x.refs ++ (AV.own r0 n0).refs) ob ob'→∀K':AV→W→Prop,K' u w→mapSetA T t x key r0 n0 ob' K':=by
 unfold mapSetA at h ⊢
 split at h
 ·rename_i k e r kv hk
  rw [onlyIf_iff] at h
  obtain ⟨h0,h⟩:=h
  obtain ⟨d,w,h,hq,hd⟩:=toD_x h
  rw [onlyIf_iff] at h
  obtain ⟨h1,h⟩:=h
  obtain ⟨o,h,ho⟩:=findO_x h
  cases o with
  | box=>exact h.elim
  | row=>exact h.elim
  | gone=>exact h.elim
  | map k' e' es=>
   simp only at h
   obtain ⟨zs,hz,h⟩:=h
   refine ⟨_,_,h,fun q hm=>?_,fun ob' ha K' hK=>(onlyIf_iff _ _).2 ⟨h0,hd ob' (ha.mono fun r hr=>by simp [hr]) _ ((onlyIf_iff _ _).2 ⟨h1,ho ob' (ha r (by simp [AV.refs])) _ ⟨zs,hz,hK⟩⟩)⟩⟩
   rcases List.mem_append.1 hm with hm | hm
   ·exact List.mem_append_right _ (hq q hm)
   ·simp only [List.mem_singleton] at hm
    rw [hm]
    simp [AV.refs]
  | amap k' e' es _ _ _=>
   simp only at h
   obtain ⟨zs,hz,h⟩:=h
   refine ⟨_,_,h,fun q hm=>?_,fun ob' ha K' hK=>(onlyIf_iff _ _).2 ⟨h0,hd ob' (ha.mono fun r hr=>by simp [hr]) _ ((onlyIf_iff _ _).2 ⟨h1,ho ob' (ha r (by simp [AV.refs])) _ ⟨zs,hz,hK⟩⟩)⟩⟩
   rcases List.mem_append.1 hm with hm | hm
   ·exact List.mem_append_right _ (hq q hm)
   ·simp only [List.mem_singleton] at hm
    rw [hm]
    simp [AV.refs]
 ·exact h.elim
theorem mapPutK_x {T:TT} {t:Nat} {x key v:AV} {ob:List (Option OB)} {K:AV→W→Prop} (h:mapPutK T t x key v ob K) :
  ∃u w,K u w∧(∀q ∈ w,q.1 ∈ x.refs ++ v.refs)∧∀ob',Agree (x.refs ++ v.refs) ob ob'→∀K':AV→W→Prop,K' u w→mapPutK T t x key v ob' K':=by
 unfold mapPutK at h ⊢
 split at h
 ·rcases h with h | h
  ·obtain ⟨u,w,h1,h2,h3⟩:=mapSetK_x h
   exact ⟨u,w,h1,h2,fun ob' ha K' hK=>.inl (h3 ob' ha K' hK)⟩
  ·obtain ⟨u,w,h1,h2,h3⟩:=mapSetA_x h
   exact ⟨u,w,h1,h2,fun ob' ha K' hK=>.inr (h3 ob' ha K' hK)⟩
 ·exact mapSetK_x h
theorem boundK_x {o:Option AV} {dflt:Int} {K:Int→Prop} (h:boundK o dflt K) :∃i,K i∧∀K':Int→Prop,K' i→boundK o dflt K':=by
 unfold boundK at h ⊢
 split at h
 ·exact ⟨_,h,fun K' hK=>hK⟩
 ·exact ⟨_,h,fun K' hK=>hK⟩
 ·exact h.elim
theorem sliceD_x {sz:Nat} {d:D} {lo hi:Option AV} {K:AV→Prop} (h:sliceD sz d lo hi K) :∃v,K v∧v.isOsl=false∧∀K':AV→Prop,K' v→sliceD sz d lo hi K':=by
 cases d with
 | lst sz' es=>
  simp only [sliceD,onlyIf_iff] at h ⊢
  obtain ⟨h0,h⟩:=h
  obtain ⟨l,h,hl⟩:=boundK_x h
  obtain ⟨u,⟨hc,ys,hy,h⟩,hu⟩:=boundK_x h
  exact ⟨_,h,rfl,fun K' hK=>⟨h0,hl _ (hu _ ⟨hc,ys,hy,hK⟩)⟩⟩
 | _=>simp [sliceD] at h
theorem sliceF_x {T:TT} {e:Nat} {x:AV} {lo hi:Option AV} {ob:List (Option OB)} {K:AV→W→Prop} (h:sliceF T e x lo hi ob K) :
  ∃v w,K v w∧(v.isOsl=true→w=[])∧(∀q ∈ w,q.1 ∈ x.refs)∧∀ob',Agree x.refs ob ob'→∀K':AV→W→Prop,K' v w→sliceF T e x lo hi ob' K':=by
 unfold sliceF at h ⊢
 rw [onlyIf_iff] at h
 obtain ⟨h0,h⟩:=h
 obtain ⟨d,w,h,hq,hd⟩:=toD_x h
 obtain ⟨v,h,hno,hv⟩:=sliceD_x h
 exact ⟨v,w,h,fun e=>by rw [hno] at e;simp at e,hq,fun ob' ha K' hK=>(onlyIf_iff _ _).2 ⟨h0,hd ob' ha _ (hv _ hK)⟩⟩
theorem sliceV_x {T:TT} {e r n:Nat} {lo hi:Option AV} {ob:List (Option OB)} {K:AV→W→Prop} (h:sliceV T e r n lo hi ob K) :
  ∃v w,K v w∧(v.isOsl=true→w=[])∧(∀q ∈ w,q.1 ∈ [r])∧∀ob',Agree [r] ob ob'→∀K':AV→W→Prop,K' v w→sliceV T e r n lo hi ob' K':=by
 unfold sliceV at h ⊢
 rw [onlyIf_iff] at h
 obtain ⟨h0,h⟩:=h
 obtain ⟨o,h,ho⟩:=findO_x h
 cases o with
 | box=>exact h.elim
 | map=>exact h.elim
 | amap=>exact h.elim
 | gone=>exact h.elim
 | row e' sz es f=>
  simp only [onlyIf_iff] at h
  obtain ⟨h1,h⟩:=h
  obtain ⟨l,h,hl⟩:=boundK_x h
  obtain ⟨u,⟨hc,hn,a,k,ha,hk,h⟩,hu⟩:=boundK_x h
  exact ⟨_,_,h,fun _=>rfl,fun q hq=>by simp at hq,fun ob' hag K' hK=>(onlyIf_iff _ _).2 ⟨h0,ho ob' (hag r (by simp)) _ (by simp only [onlyIf_iff];exact ⟨h1,hl _ (hu _ ⟨hc,hn,a,k,ha,hk,hK⟩)⟩)⟩⟩
theorem sliceM_x {T:TT} {e self r n:Nat} {lo hi mx:Option AV} {ob:List (Option OB)} {K:AV→W→Prop} (h:sliceM T e self r n lo hi mx ob K) :
  ∃v w,K v w∧(v.isOsl=true→w=[])∧(∀q ∈ w,q.1 ∈ [self,r])∧∀ob',Agree [self,r] ob ob'→∀K':AV→W→Prop,K' v w→sliceM T e self r n lo hi mx ob' K':=by
 unfold sliceM at h ⊢
 have hq:=h
 rw [noO_iff,onlyIf_iff] at h
 obtain ⟨hs,h0,h⟩:=h
 obtain ⟨o,h,ho⟩:=findO_x h
 cases o with
 | box=>exact h.elim
 | map=>exact h.elim
 | amap=>exact h.elim
 | gone=>exact h.elim
 | row e' sz es f=>
  simp only [onlyIf_iff] at h
  obtain ⟨h1,h⟩:=h
  obtain ⟨l,h,hl⟩:=boundK_x h
  obtain ⟨u,h,hu⟩:=boundK_x h
  obtain ⟨q,⟨hc,hn,zs,hz,h⟩,hm⟩:=boundK_x h
  refine ⟨_,_,h,fun e=>by simp [AV.isOsl] at e,fun q hq=>?_,fun ob' hag K' hK=>noO_x hq (hag self (by simp)) ((onlyIf_iff _ _).2 ⟨h0,ho ob' (hag r (by simp)) _ (by simp only [onlyIf_iff];exact ⟨h1,hl _ (hu _ (hm _ ⟨hc,hn,zs,hz,hK⟩))⟩)⟩)⟩
  simp only [List.mem_cons,List.not_mem_nil,or_false] at hq
  rcases hq with rfl | rfl<;>simp
theorem slice3K_x {T:TT} {t self:Nat} {x:AV} {lo hi mx:Option AV} {ob:List (Option OB)} {K:AV→W→Prop} (h:slice3K T t self x lo hi mx ob K) :
  ∃v w,K v w∧(v.isOsl=true→w=[])∧(∀q ∈ w,q.1 ∈ self::x.refs)∧∀ob',Agree (self::x.refs) ob ob'→∀K':AV→W→Prop,K' v w→slice3K T t self x lo hi mx ob' K':=by
 unfold slice3K at h ⊢
 split at h
 ·split at h
  ·split at h
   ·obtain ⟨v,w,h1,hos,h2,h3⟩:=sliceM_x h
    exact ⟨v,w,h1,hos,fun q hq=>by simpa [AV.refs] using h2 q hq,fun ob' ha K' hK=>h3 ob' (ha.mono fun r hr=>by simpa [AV.refs] using hr) K' hK⟩
   ·exact h.elim
  ·exact h.elim
 ·exact h.elim
theorem sliceK_x {T:TT} {t self:Nat} {x:AV} {lo hi:Option AV} {ob:List (Option OB)} {K:AV→W→Prop} (h:sliceK T t self x lo hi ob K) :
  ∃v w,K v w∧(v.isOsl=true→w=[])∧(∀q ∈ w,q.1 ∈ self::x.refs)∧∀ob',Agree (self::x.refs) ob ob'→∀K':AV→W→Prop,K' v w→sliceK T t self x lo hi ob' K':=by
 unfold sliceK at h ⊢
 split at h
 ·split at h
  ·rename_i r n
   rcases h with h | h | h
   ·obtain ⟨v,w,h1,hos,h2,h3⟩:=sliceF_x h
    exact ⟨v,w,h1,hos,fun q hq=>List.mem_cons_of_mem _ (h2 q hq),fun ob' ha K' hK=>.inl (h3 ob' (ha.mono fun r hr=>List.mem_cons_of_mem _ hr) K' hK)⟩
   ·obtain ⟨v,w,h1,hos,h2,h3⟩:=sliceV_x h
    exact ⟨v,w,h1,hos,fun q hq=>List.mem_cons_of_mem _ (by simpa [AV.refs] using h2 q hq),fun ob' ha K' hK=>.inr (.inl (h3 ob' (ha.mono fun r hr=>List.mem_cons_of_mem _ (by simpa [AV.refs] using hr)) K' hK))⟩
   ·obtain ⟨v,w,h1,hos,h2,h3⟩:=sliceM_x h
    exact ⟨v,w,h1,hos,fun q hq=>by simpa [AV.refs] using h2 q hq,fun ob' ha K' hK=>.inr (.inr (h3 ob' (ha.mono fun r hr=>by simpa [AV.refs] using hr) K' hK))⟩
  ·obtain ⟨v,w,h1,hos,h2,h3⟩:=sliceF_x h
   exact ⟨v,w,h1,hos,fun q hq=>List.mem_cons_of_mem _ (h2 q hq),fun ob' ha K' hK=>h3 ob' (ha.mono fun r hr=>List.mem_cons_of_mem _ hr) K' hK⟩
 ·split at h
  ·obtain ⟨l,h,hl⟩:=boundK_x h
   obtain ⟨u,⟨hc,h⟩,hu⟩:=boundK_x h
   exact ⟨_,_,h,fun _=>rfl,fun q hq=>by simp at hq,fun ob' _ K' hK=>hl _ (hu _ ⟨hc,hK⟩)⟩
  ·exact h.elim
 ·exact h.elim
theorem clearK_x {T:TT} {t r a n m:Nat} {ob:List (Option OB)} {K:AV→W→Prop} (h:clearK T t r a n m ob K) :
  ∃v w,K v w∧(∀q ∈ w,q.1 ∈ [r])∧∀ob',Agree [r] ob ob'→∀K':AV→W→Prop,K' v w→clearK T t r a n m ob' K':=by
 unfold clearK at h ⊢
 split at h
 ·obtain ⟨o,h,ho⟩:=findO_x h
  cases o with
  | box=>exact h.elim
  | map=>exact h.elim
  | amap=>exact h.elim
  | gone=>exact h.elim
  | row e' sz es f=>
   simp only [onlyIf_iff] at h
   obtain ⟨h0,h1,z,hz,zs,hzs,h⟩:=h
   exact ⟨_,_,h,fun q hq=>by simp only [List.mem_singleton] at hq;simp [hq],fun ob' ha K' hK=>ho ob' (ha r (by simp)) _ (by simp only [onlyIf_iff];exact ⟨h0,h1,z,hz,zs,hzs,hK⟩)⟩
 ·exact h.elim
theorem indexAddrK0_x {T:TT} {t:Nat} {x y:AV} {ob:List (Option OB)} {K:AV→Prop} (h:indexAddrK0 T t x y ob K) :
  ∃v,K v∧∀ob',Agree x.refs ob ob'→∀K':AV→Prop,K' v→indexAddrK0 T t x y ob' K':=by
 unfold indexAddrK0 at h ⊢
 split at h
 ·split at h
  ·simp only [onlyIf_iff] at h ⊢
   obtain ⟨h0,h1,h2,v,h3,h4,h⟩:=h
   exact ⟨_,h,fun ob' _ K' hK=>⟨h0,h1,h2,v,h3,h4,hK⟩⟩
  ·rename_i r n _
   obtain ⟨o,h,ho⟩:=findO_x h
   cases o with
   | box cs=>
    simp only [onlyIf_iff] at h
    obtain ⟨h0,h1,h2,h⟩:=h
    exact ⟨_,h,fun ob' ha K' hK=>ho ob' (ha r (by simp [AV.refs])) _ (by simp only [onlyIf_iff];exact ⟨h0,h1,h2,hK⟩)⟩
   | map=>exact h.elim
   | amap=>exact h.elim
   | gone=>exact h.elim
   | row e' sz es f=>
    simp only [onlyIf_iff] at h
    obtain ⟨h0,h1,h2,h3,h⟩:=h
    exact ⟨_,h,fun ob' ha K' hK=>ho ob' (ha r (by simp [AV.refs])) _ (by simp only [onlyIf_iff];exact ⟨h0,h1,h2,h3,hK⟩)⟩
  ·simp only [onlyIf_iff] at h ⊢
   obtain ⟨h0,h1,⟨h2,h⟩ | ⟨h3,h2,j,hj,h⟩⟩:=h
   ·exact ⟨_,h,fun ob' _ K' hK=>⟨h0,h1,.inl ⟨h2,hK⟩⟩⟩
   ·exact ⟨_,h,fun ob' _ K' hK=>⟨h0,h1,.inr ⟨h3,h2,j,hj,hK⟩⟩⟩
  ·exact h.elim
 ·exact h.elim
theorem indexAddrK_x {T:TT} {t:Nat} {x y:AV} {ob:List (Option OB)} {K:AV→Prop} (h:indexAddrK T t x y ob K) :
  ∃v,K v∧∀ob',Agree x.refs ob ob'→∀K':AV→Prop,K' v→indexAddrK T t x y ob' K':=by
 unfold indexAddrK at h ⊢
 split at h
 ·rename_i r a n m
  unfold indexAddrV at h ⊢
  split at h
  ·split at h
   ·obtain ⟨o,h,ho⟩:=findO_x h
    cases o with
    | box=>exact h.elim
    | map=>exact h.elim
    | amap=>exact h.elim
    | gone=>exact h.elim
    | row e' sz es f=>
     simp only [onlyIf_iff] at h
     obtain ⟨h0,h1,h2,h3,j,hj,h⟩:=h
     exact ⟨_,h,fun ob' ha K' hK=>ho ob' (ha r (by simp [AV.refs])) _ (by simp only [onlyIf_iff];exact ⟨h0,h1,h2,h3,j,hj,hK⟩)⟩
   ·exact h.elim
  ·exact h.elim
 ·exact indexAddrK0_x h
theorem aggCells_x {x:AV} {K:List AV→Prop} (h:aggCells x K) :∃l,K l∧∀K':List AV→Prop,K' l→aggCells x K':=by
 unfold aggCells at h ⊢
 split at h
 ·rename_i cs
  have hm :∀(cs:List D) (K:List AV→Prop),mapK (fun c K=>K (AV.d c)) cs K ↔ K (cs.map .d):=by
   intro cs
   induction cs with
   | nil=>intro K;simp [mapK]
   | cons c cs ih=>intro K;simp [mapK,ih]
  rw [hm] at h
  exact ⟨_,h,fun K' hK=>(hm _ _).2 hK⟩
 ·exact ⟨_,h,fun K' hK=>hK⟩
 ·exact h.elim
theorem partK_x {T:TT} {t off:Nat} {cs:List AV} {K:AV→Prop} (h:partK T t cs off K) :∃v,K v∧∀K':AV→Prop,K' v→partK T t cs off K':=by
 unfold partK at h ⊢
 split at h
 ·simp only [dropK_iff,onlyIf_iff,takeK_iff,aggOf_iff] at h ⊢
  exact ⟨_,h.2,fun K' hK=>⟨h.1,hK⟩⟩
 ·split at h
  ·obtain ⟨v,h1,h2⟩:=force_x h
   exact ⟨v,h1,fun K' hK=>h2 K' hK⟩
  ·exact h.elim
 ·exact h.elim
theorem indexK_x {T:TT} {t:Nat} {x y:AV} {K:AV→Prop} (h:indexK T t x y K) :∃v,K v∧∀K':AV→Prop,K' v→indexK T t x y K':=by
 unfold indexK at h ⊢
 split at h
 ·split at h
  ·obtain ⟨h1,c,h2,h⟩:=h
   exact ⟨_,h,fun K' hK=>⟨h1,c,h2,hK⟩⟩
  ·obtain ⟨cs,h,hx⟩:=aggCells_x h
   obtain ⟨h1,h⟩:=h
   split at h
   ·rename_i hc
    obtain ⟨a,ha,h⟩:=h
    obtain ⟨v,g1,g2⟩:=force_x h
    exact ⟨v,g1,fun K' hK=>hx _ ⟨h1,⟨a,ha,g2 K' hK⟩⟩⟩
   ·exact h.elim
  ·exact h.elim
 ·exact h.elim
theorem fieldK_x {T:TT} {t i:Nat} {x:AV} {K:AV→Prop} (h:fieldK T t i x K) :∃v,K v∧∀K':AV→Prop,K' v→fieldK T t i x K':=by
 unfold fieldK at h ⊢
 split at h
 ·split at h
  ·obtain ⟨cs,h,hx⟩:=aggCells_x h
   obtain ⟨v,g1,g2⟩:=partK_x h
   exact ⟨v,g1,fun K' hK=>hx _ (g2 K' hK)⟩
  ·exact h.elim
 ·exact h.elim
theorem fieldOff_x {T:TT} {t i:Nat} {K:Nat→Nat→Nat→Prop} (h:fieldOff T t i K) :∃a b c,K a b c∧∀K':Nat→Nat→Nat→Prop,K' a b c→fieldOff T t i K':=by
 unfold fieldOff at h ⊢
 split at h
 ·split at h
  ·split at h
   ·exact h.elim
   ·exact ⟨_,_,_,h,fun K' hK=>hK⟩
  ·exact h.elim
 ·exact h.elim
theorem convK_x {T:TT} {src dst:Nat} {x:AV} {ob:List (Option OB)} {K:AV→Prop} (h:convK T src dst x ob K) :
  ∃v,K v∧∀ob',Agree x.refs ob ob'→∀K':AV→Prop,K' v→convK T src dst x ob' K':=by
 unfold convK at h ⊢
 rw [onlyIf_iff] at h
 obtain ⟨h0,h⟩:=h
 split at h
 ·obtain ⟨r,h1,h⟩:=h
  exact ⟨_,h,fun ob' _ K' hK=>(onlyIf_iff _ _).2 ⟨h0,r,h1,hK⟩⟩
 ·exact ⟨_,h,fun ob' _ K' hK=>(onlyIf_iff _ _).2 ⟨h0,hK⟩⟩
 ·split at h
  ·split at h
   ·rename_i hke
    rw [onlyIf_iff] at h
    obtain ⟨h1,h⟩:=h
    obtain ⟨sz,es,h,hx⟩:=srcK_x h
    rw [onlyIf_iff] at h
    obtain ⟨h2,l,h3,h⟩:=h
    exact ⟨_,h,fun ob' ha K' hK=>(onlyIf_iff _ _).2 ⟨h0,(onlyIf_iff _ _).2 ⟨h1,hx ob' ha _ ((onlyIf_iff _ _).2 ⟨h2,l,h3,hK⟩)⟩⟩⟩
   ·exact h.elim
  ·exact h.elim
 ·exact h.elim
theorem moveK_x {T:TT} {ty self:Nat} {x:AV} {ob:List (Option OB)} {K:AV→W→Prop} (h:moveK T ty self x ob K) :
  ∃v w,K v w∧(∀q ∈ w,q.1=self)∧∀ob',ob'[self]?=ob[self]?→∀K':AV→W→Prop,K' v w→moveK T ty self x ob' K':=by
 unfold moveK at h ⊢
 split at h
 ·split at h
  ·split at h
   ·rename_i hs
    rw [onlyIf_iff] at h
    exact ⟨_,_,h.2,fun q hq=>by simp only [List.mem_singleton] at hq;simp [hq],fun ob' ha K' hK=>by rw [ha,hs];exact (onlyIf_iff _ _).2 ⟨h.1,hK⟩⟩
   ·rename_i hs
    refine ⟨_,_,h,fun q hq=>by simp at hq,fun ob' ha K' hK=>?_⟩
    rw [ha]
    split
    ·rename_i h2;exact absurd h2 hs
    ·exact hK
  ·exact h.elim
 ·obtain ⟨v,h1,h2⟩:=force_x h
  exact ⟨v,[],h1,fun q hq=>by simp at hq,fun ob' _ K' hK=>h2 _ hK⟩
theorem go2_x (r:Nat) :∀(l:List Nat) (n:Nat) {F N:Nat→Prop},argK.go r l n F N→(∃k,F k∧∀F' N':Nat→Prop,F' k→argK.go r l n F' N') ∨ (∃k,N k∧∀F' N':Nat→Prop,N' k→argK.go r l n F' N')
 | [],n,F,N,h=>.inr ⟨n,h,fun F' N' h'=>h'⟩
 | x::l,n,F,N,h=>by
  simp only [argK.go] at h ⊢
  cases hb:Nat.beq x r with
  | true=>simp only [hb] at h ⊢;exact .inl ⟨n,h,fun F' N' h'=>h'⟩
  | false=>
   simp only [hb] at h ⊢
   rcases go2_x r l (n + 1) h with ⟨k,h1,h2⟩ | ⟨k,h1,h2⟩
   ·exact .inl ⟨k,h1,h2⟩
   ·exact .inr ⟨k,h1,h2⟩
theorem refK_x {r:Nat} {ρ:List Nat} {K:Nat→List Nat→Prop} (h:argK.refK r ρ K) :∃i ρ',K i ρ'∧(∀x ∈ ρ',x ∈ ρ ∨ x=r)∧∀K':Nat→List Nat→Prop,K' i ρ'→argK.refK r ρ K':=by
 rcases go2_x r ρ 0 h with ⟨k,h1,h2⟩ | ⟨k,h1,h2⟩
 ·exact ⟨k,ρ,h1,fun x hx=>.inl hx,fun K' hK=>h2 _ _ hK⟩
 ·exact ⟨k,_,h1,fun x hx=>by simpa using hx,fun K' hK=>h2 _ _ hK⟩
theorem capsK_x :∀{caps:List AV} {ρ:List Nat} {K:List AV→List Nat→Prop},argK.capsK caps ρ K→∃c' ρ',K c' ρ'∧(∀x ∈ ρ',x ∈ ρ ∨ x ∈ AV.refs.refsL caps)∧∀K':List AV→List Nat→Prop,K' c' ρ'→argK.capsK caps ρ K'
 | [],ρ,K,h=>⟨_,_,h,fun x hx=>.inl hx,fun K' hK=>hK⟩
 | c::caps,ρ,K,h=>by
  cases c<;>simp only [argK.capsK] at h ⊢
  case ref r off=>
   obtain ⟨i,ρ1,h,h1,h2⟩:=refK_x h
   obtain ⟨c',ρ2,h,h3,h4⟩:=capsK_x h
   refine ⟨_,ρ2,h,fun x hx=>?_,fun K' hK=>h2 _ (h4 _ hK)⟩
   rcases h3 x hx with hx | hx
   ·rcases h1 x hx with hx | hx
    ·exact .inl hx
    ·exact .inr (by simp [AV.refs.refsL,AV.refs,hx])
   ·exact .inr (by simp [AV.refs.refsL,hx])
theorem argK_x {keep:Bool} {ob:List (Option OB)} {a:AV} {ρ:List Nat} {K:AV→List Nat→W→Prop} (h:argK keep ob a ρ K) :
  ∃a' ρ' w,K a' ρ' w∧(∀q ∈ w,q.1 ∈ a.refs)∧(∀x ∈ ρ',x ∈ ρ ∨ x ∈ a.refs)∧∀ob',Agree a.refs ob ob'→∀K':AV→List Nat→W→Prop,K' a' ρ' w→argK keep ob' a ρ K':=by
 cases a<;>simp only [argK] at h ⊢
 case d x=>
  split at h
  ·exact ⟨_,_,_,h,fun q hq=>by simp at hq,fun x hx=>.inl hx,fun ob' _ K' hK=>hK⟩
  ·exact ⟨_,_,_,(normK_iff _ _).1 h,fun q hq=>by simp at hq,fun x hx=>.inl hx,fun ob' _ K' hK=>(normK_iff _ _).2 hK⟩
 case own r n=>
  cases keep with
  | true=>
   obtain ⟨i,ρ1,h,h1,h2⟩:=refK_x h
   exact ⟨_,_,_,h,fun q hq=>by simp at hq,fun x hx=>(h1 x hx).imp id fun e=>by simp [AV.refs,e],fun ob' _ K' hK=>h2 _ hK⟩
  | false=>
   obtain ⟨x,w,h,hq,h2⟩:=toD_x h
   exact ⟨_,_,_,h,hq,fun x hx=>.inl hx,fun ob' ha K' hK=>h2 ob' ha _ hK⟩
 case agg cs=>
  obtain ⟨x,w,h,hq,h2⟩:=toD_x h
  exact ⟨_,_,_,h,hq,fun x hx=>.inl hx,fun ob' ha K' hK=>h2 ob' ha _ hK⟩
 case ref r off=>
  obtain ⟨i,ρ1,h,h1,h2⟩:=refK_x h
  exact ⟨_,_,_,h,fun q hq=>by simp at hq,fun x hx=>(h1 x hx).imp id fun e=>by simp [AV.refs,e],fun ob' _ K' hK=>h2 _ hK⟩
 case mp r=>
  obtain ⟨i,ρ1,h,h1,h2⟩:=refK_x h
  exact ⟨_,_,_,h,fun q hq=>by simp at hq,fun x hx=>(h1 x hx).imp id fun e=>by simp [AV.refs,e],fun ob' _ K' hK=>h2 _ hK⟩
 case it g r=>
  obtain ⟨i,ρ1,h,h1,h2⟩:=refK_x h
  exact ⟨_,_,_,h,fun q hq=>by simp at hq,fun x hx=>(h1 x hx).imp id fun e=>by simp [AV.refs,e],fun ob' _ K' hK=>h2 _ hK⟩
 case eref cs=>exact ⟨_,_,_,h,fun q hq=>by simp at hq,fun x hx=>.inl hx,fun ob' _ K' hK=>hK⟩
 case fn f caps=>
  obtain ⟨c',ρ1,h,h1,h2⟩:=capsK_x h
  exact ⟨_,_,_,h,fun q hq=>by simp at hq,fun x hx=>(h1 x hx).imp id fun e=>by simpa [AV.refs] using e,fun ob' _ K' hK=>h2 _ hK⟩
theorem argsK_x {keep:List Bool} {ob:List (Option OB)} :∀{asz:List AV} {ρ:List Nat} {K:List AV→List Nat→W→Prop},argsK keep ob asz ρ K→
  ∃asz' ρ' w,K asz' ρ' w∧(∀q ∈ w,q.1 ∈ AV.refs.refsL asz)∧(∀x ∈ ρ',x ∈ ρ ∨ x ∈ AV.refs.refsL asz)∧∀ob',Agree (AV.refs.refsL asz) ob ob'→∀K':List AV→List Nat→W→Prop,K' asz' ρ' w→argsK keep ob' asz ρ K'
 | [],ρ,K,h=>⟨_,_,_,h,fun q hq=>by simp at hq,fun x hx=>.inl hx,fun ob' _ K' hK=>hK⟩
 | a::asz,ρ,K,h=>by
  simp only [argsK] at h ⊢
  obtain ⟨a',ρ1,w1,h,h1,h2,h3⟩:=argK_x h
  obtain ⟨asz',ρ2,w2,h,g1,g2,g3⟩:=argsK_x h
  refine ⟨_,_,_,h,fun q hq=>?_,fun x hx=>?_,fun ob' ha K' hK=>h3 ob' (ha.mono fun r hr=>by simp [AV.refs.refsL,hr]) _ (g3 ob' (ha.mono fun r hr=>by simp [AV.refs.refsL,hr]) _ hK)⟩
  ·simp only [AV.refs.refsL,List.mem_append]
   rcases List.mem_append.1 hq with hq | hq
   ·exact .inl (h1 q hq)
   ·exact .inr (g1 q hq)
  ·simp only [AV.refs.refsL,List.mem_append]
   rcases g2 x hx with hx | hx
   ·exact (h2 x hx).imp id .inl
   ·exact .inr (.inr hx)
theorem objsK_x {ob:List (Option OB)} :∀{ρ:List Nat} {K:List OB→Prop},objsK ob ρ K→∃l,K l∧∀ob',Agree ρ ob ob'→∀K':List OB→Prop,K' l→objsK ob' ρ K'
 | [],K,h=>⟨_,h,fun ob' _ K' hK=>hK⟩
 | r::ρ,K,h=>by
  simp only [objsK] at h ⊢
  obtain ⟨o,h,ho⟩:=findO_x h
  cases o with
  | box cs=>
   simp only [cellsD_iff] at h
   obtain ⟨l,h1,h2⟩:=objsK_x h.2
   exact ⟨_,h1,fun ob' ha K' hK=>ho ob' (ha r (by simp)) _ (by simp only [cellsD_iff];exact ⟨h.1,h2 ob' (ha.mono fun r hr=>by simp [hr]) _ hK⟩)⟩
  | row e sz es f=>
   simp only [onlyIf_iff] at h
   obtain ⟨hl,h⟩:=h
   obtain ⟨l,h1,h2⟩:=objsK_x h
   exact ⟨_,h1,fun ob' ha K' hK=>ho ob' (ha r (by simp)) _ ((onlyIf_iff _ _).2 ⟨hl,h2 ob' (ha.mono fun r hr=>by simp [hr]) _ hK⟩)⟩
  | amap=>exact h.elim
  | gone=>exact h.elim
  | map k e es=>
   simp only at h
   obtain ⟨l,h1,h2⟩:=objsK_x h
   exact ⟨_,h1,fun ob' ha K' hK=>ho ob' (ha r (by simp)) _ (h2 ob' (ha.mono fun r hr=>by simp [hr]) _ hK)⟩
theorem backK_x {self:Nat} :∀{ρ:List Nat} {objs:List OB} {K:W→Prop},backK ρ self objs K→∃w,K w∧(∀q ∈ w,q.1=self ∨ q.1 ∈ ρ)∧∀K':W→Prop,K' w→backK ρ self objs K'
 | [],[],K,h=>⟨_,h,fun q hq=>by simp at hq,fun K' hK=>hK⟩
 | [],[o],K,h=>by
  simp only [backK] at h ⊢
  split at h
  ·rename_i hc;exact ⟨_,h,fun q hq=>by simp only [List.mem_singleton] at hq;simp [hq],fun K' hK=>hK⟩
  ·exact h.elim
 | r::ρ,o::os,K,h=>by
  simp only [backK] at h ⊢
  split at h
  ·obtain ⟨w,h1,h3,h2⟩:=backK_x h
   refine ⟨_,h1,fun q hq=>?_,fun K' hK=>h2 _ hK⟩
   simp only [List.mem_cons] at hq
   rcases hq with hq | hq
   ·simp [hq]
   ·exact (h3 q hq).imp id fun e=>by simp [e]
  ·exact h.elim
 | [],_::_::_,K,h=>by simp [backK] at h
 | _::_,[],K,h=>by simp [backK] at h
theorem callK_x {cx:Cx} {f:FuncId} {self:Nat} {args:List AV} {ob:List (Option OB)} {K:AV→W→Prop} (h:callK cx f self args ob K) :
  ∃v w,K v w∧(∀q ∈ w,q.1 ∈ self::AV.refs.refsL args)∧∀ob',Agree (self::AV.refs.refsL args) ob ob'→∀K':AV→W→Prop,K' v w→callK cx f self args ob' K':=by
 simp only [callK_eq] at h ⊢
 unfold callK0 at h ⊢
 obtain ⟨asz',ρ,w,h,h1,h2,h3⟩:=argsK_x h
 rw [onlyIf_iff] at h
 obtain ⟨hap,h⟩:=h
 obtain ⟨objs,h,h4⟩:=objsK_x h
 obtain ⟨res,objs',hC,hs,h⟩:=h
 rw [renK_iff] at h
 obtain ⟨a',hr,h⟩:=h
 obtain ⟨w',h,h5,h6⟩:=backK_x h
 have hρ :∀x ∈ ρ,x ∈ AV.refs.refsL args:=fun x hx=>(h2 x hx).resolve_left (by simp)
 refine ⟨_,_,h,fun q hq=>?_,fun ob' ha K' hK=>h3 ob' (ha.mono fun r hr=>by simp [hr]) _ ((onlyIf_iff _ _).2 ⟨hap,h4 ob' (ha.mono fun r hr=>by simp [hρ r hr]) _ ⟨res,objs',hC,?_,(renK_iff _ _ _ _).2 ⟨a',hr,h6 _ hK⟩⟩⟩)⟩
 ·rcases List.mem_append.1 hq with hq | hq
  ·exact List.mem_cons_of_mem _ (h1 q hq)
  ·rcases h5 q hq with e | e
   ·simp [e]
   ·exact List.mem_cons_of_mem _ (hρ _ e)
 ·rcases hs with hs | hs
  ·exact .inl hs
  ·exact .inr ((ha self (by simp)).trans hs)
theorem maxK_x {l:List AV} {K:AV→Prop} (h:maxK l K) :∃v,K v∧∀K':AV→Prop,K' v→maxK l K':=by
 unfold maxK at h ⊢
 split at h
 ·obtain ⟨r,h1,h⟩:=h;exact ⟨_,h,fun K' hK=>⟨r,h1,hK⟩⟩
 ·exact h.elim
theorem minK_x {l:List AV} {K:AV→Prop} (h:minK l K) :∃v,K v∧∀K':AV→Prop,K' v→minK l K':=by
 unfold minK at h ⊢
 split at h
 ·obtain ⟨r,h1,h⟩:=h;exact ⟨_,h,fun K' hK=>⟨r,h1,hK⟩⟩
 ·exact h.elim
end Go.AX
end
section
namespace Go.AX
def fpOf (np:Nat) (o:Oper) (av:Operand→AV):List Nat:=
 (match opRW o.op with
  | true=>[np + o.dst.getD 0]
  | false=>[]) ++ (opRefs o.op).flatMap fun x=>(av x).refs
def Ox (cx:Cx) (o:Oper) (av:Operand→AV) (ob:List (Option OB)) (K:AV→W→Prop):Prop:=
 ∃v w,K v w∧(opRW o.op=false→w=[])∧(∀q ∈ w,q.1 ∈ fpOf cx.np o av)∧
  ∀av' ob',(∀x ∈ o.op.operands.toList,av' x=av x)→Agree (fpOf cx.np o av) ob ob'→∀K':AV→W→Prop,K' v w→opK cx o av' ob' K'
theorem Ox.pure {cx:Cx} {o:Oper} {av:Operand→AV} {ob:List (Option OB)} {K:AV→W→Prop} (v:AV) (hK:K v [])
  (h :∀av' ob',(∀x ∈ o.op.operands.toList,av' x=av x)→Agree (fpOf cx.np o av) ob ob'→∀K':AV→W→Prop,K' v []→opK cx o av' ob' K'):Ox cx o av ob K:=
 ⟨v,[],hK,fun _=>rfl,fun q hq=>by simp at hq,h⟩
theorem fp_opd {np:Nat} {o:Oper} {av:Operand→AV} {x:Operand} (hx:x ∈ o.op.operands.toList) (hf:opRefs o.op=o.op.operands.toList) :∀r ∈ (av x).refs,r ∈ fpOf np o av:=fun _ hr=>
 List.mem_append_right _ (List.mem_flatMap.2 ⟨x,hf ▸ hx,hr⟩)
theorem fp_self {np:Nat} {o:Oper} {av:Operand→AV} (h:opRW o.op=true):np + o.dst.getD 0 ∈ fpOf np o av:=by
 unfold fpOf;rw [h];simp
theorem parts_congr {av av':Operand→AV} :∀(l:List (Nat×Operand)),(∀x ∈ l.map (·.2),av' x=av x)→(l.map fun (i,x)=>(i,av' x))=l.map fun (i,x)=>(i,av x)
 | [],_=>rfl
 | (i,x)::l,h=>by
  simp only [List.map_cons,List.mem_cons,forall_eq_or_imp] at h ⊢
  rw [h.1,parts_congr l h.2]
theorem refsL_mem {asz:List AV} {r:Nat}:r ∈ AV.refs.refsL asz ↔∃a ∈ asz,r ∈ a.refs:=by
 induction asz with
 | nil=>simp [AV.refs.refsL]
 | cons a l ih=>simp [AV.refs.refsL,ih]
theorem refs_partL {av:Operand→AV} {r:Nat} :∀{l:List (Nat×Operand)},r ∈ AV.refs.refsL ((l.map fun (i,x)=>(i,av x)).map (·.2))→∃x ∈ l.map (·.2),r ∈ (av x).refs
 | [],h=>by simp [AV.refs.refsL] at h
 | (i,x)::l,h=>by
  simp only [List.map_cons,AV.refs.refsL,List.mem_append] at h
  rcases h with h | h
  ·exact ⟨x,by simp,h⟩
  ·obtain ⟨y,hy,h⟩:=refs_partL h
   exact ⟨y,by simp only [List.map_cons,List.mem_cons];exact .inr hy,h⟩
theorem nilT_refs {T:TT} {t:Nat} {a:AV} :∀r ∈ (nilT T t a).refs,r ∈ a.refs:=by
 intro r hr
 unfold nilT at hr
 split at hr
 ·split at hr
  ·simp [AV.refs] at hr
  ·exact hr
 ·exact hr
theorem argsT_congr {T:TT} {av av':Operand→AV} :∀(l:List Operand) (ts:List Nat),(∀x ∈ l,av' x=av x)→argsT T av' l ts=argsT T av l ts
 | [],ts,_=>by simp [argsT]
 | x::xs,[],h=>by
  simp only [argsT]
  exact List.map_congr_left h
 | x::xs,t::ts,h=>by
  simp only [argsT]
  rw [h x (by simp),argsT_congr xs ts fun y hy=>h y (by simp [hy])]
theorem argsT_refs {T:TT} {av:Operand→AV} {a:AV} :∀{l:List Operand} {ts:List Nat},a ∈ argsT T av l ts→∃x ∈ l,∀r ∈ a.refs,r ∈ (av x).refs
 | [],ts,h=>by simp [argsT] at h
 | x::xs,[],h=>by
  simp only [argsT] at h
  obtain ⟨y,hy,rfl⟩:=List.mem_map.1 h
  exact ⟨y,hy,fun r hr=>hr⟩
 | x::xs,t::ts,h=>by
  simp only [argsT,List.mem_cons] at h
  rcases h with rfl | h
  ·exact ⟨x,by simp,nilT_refs⟩
  ·obtain ⟨y,hy,hr⟩:=argsT_refs h
   exact ⟨y,by simp [hy],hr⟩
theorem opK_x {cx:Cx} {o:Oper} {av:Operand→AV} {ob:List (Option OB)} {K:AV→W→Prop} (h:opK cx o av ob K):Ox cx o av ob K:=by
 have self :∀{ob':List (Option OB)},opRW o.op=true→Agree (fpOf cx.np o av) ob ob'→ob'[cx.np + o.dst.getD 0]?=ob[cx.np + o.dst.getD 0]?:=fun hr ha=>ha _ (fp_self hr)
 have opd :∀{ob':List (Option OB)} (x:Operand),x ∈ o.op.operands.toList→opRefs o.op=o.op.operands.toList→Agree (fpOf cx.np o av) ob ob'→Agree (av x).refs ob ob':=fun x hx hf ha=>ha.mono (fp_opd hx hf)
 unfold opK at h
 split at h<;>rename_i heq
 ·rename_i x
  split at h
  ·rename_i cv
   obtain ⟨v,w,h1,h2,h3⟩:=moveK_x h
   have hrw:opRW o.op=true:=by rw [heq];rfl
   refine ⟨v,w,h1,fun e=>by rw [hrw] at e;simp at e,fun q hq=>by rw [h2 q hq];exact fp_self hrw,fun av' ob' hav ha K' hK=>?_⟩
   unfold opK;rw [heq]
   simp only
   rw [hav (.const cv) (by rw [heq];simp [Op.operands])]
   exact h3 ob' (self hrw ha) _ hK
  ·rename_i hnc
   obtain ⟨v,h1,h2⟩:=force_x h
   refine .pure v h1 fun av' ob' hav ha K' hK=>?_
   unfold opK;rw [heq]
   simp only
   rw [hav x (by rw [heq];simp [Op.operands])]
   exact h2 (fun v=>K' v []) hK
 ·rename_i x
  split at h
  ·rename_i cv
   obtain ⟨v,w,h1,h2,h3⟩:=moveK_x h
   have hrw:opRW o.op=true:=by rw [heq];rfl
   refine ⟨v,w,h1,fun e=>by rw [hrw] at e;simp at e,fun q hq=>by rw [h2 q hq];exact fp_self hrw,fun av' ob' hav ha K' hK=>?_⟩
   unfold opK;rw [heq]
   simp only
   rw [hav (.const cv) (by rw [heq];simp [Op.operands])]
   exact h3 ob' (self hrw ha) _ hK
  ·rename_i hnc
   obtain ⟨v,h1,h2⟩:=force_x h
   refine .pure v h1 fun av' ob' hav ha K' hK=>?_
   unfold opK;rw [heq]
   simp only
   rw [hav x (by rw [heq];simp [Op.operands])]
   exact h2 (fun v=>K' v []) hK
 ·rename_i c a b
  obtain ⟨v,h1,h2⟩:=pickK_x h
  refine .pure v h1 fun av' ob' hav ha K' hK=>?_
  unfold opK;rw [heq];simp only
  rw [hav c (by rw [heq];simp [Op.operands]),hav a (by rw [heq];simp [Op.operands]),hav b (by rw [heq];simp [Op.operands])]
  exact h2 (fun v=>K' v []) hK
 ·rename_i t
  have hrw:opRW o.op=true:=by rw [heq];rfl
  rw [onlyIf_iff] at h
  obtain ⟨hk,h⟩:=h
  have h0:=h
  rw [noO_iff] at h
  refine ⟨_,_,h.2,fun e=>by rw [hrw] at e;simp at e,fun q hq=>by simp only [List.mem_singleton] at hq;rw [hq];exact fp_self hrw,fun av' ob' hav ha K' hK=>?_⟩
  unfold opK;rw [heq];simp only
  exact (onlyIf_iff _ _).2 ⟨hk,noO_x h0 (self hrw ha) hK⟩
 ·rename_i t x
  have hrw:opRW o.op=true:=by rw [heq];rfl
  have h0:=h
  rw [noO_iff,cellsK_iff] at h
  obtain ⟨hs,l,hl,h⟩:=h
  rw [onlyIf_iff] at h
  refine ⟨_,_,h.2,fun e=>by rw [hrw] at e;simp at e,fun q hq=>by simp only [List.mem_singleton] at hq;rw [hq];exact fp_self hrw,fun av' ob' hav ha K' hK=>?_⟩
  unfold opK;rw [heq];simp only
  refine noO_x h0 (self hrw ha) ?_
  rw [hav x (by rw [heq];simp [Op.operands]),cellsK_iff]
  exact ⟨l,hl,(onlyIf_iff _ _).2 ⟨h.1,hK⟩⟩
 ·rename_i t ps
  obtain ⟨v,h1,h2⟩:=buildK_x h
  refine .pure v h1 fun av' ob' hav ha K' hK=>?_
  unfold opK;rw [heq];simp only
  rw [parts_congr (av:=av) ps.toList fun x hx=>hav x (by rw [heq];simpa [Op.operands] using hx)]
  exact h2 (fun v=>K' v []) hK
 ·rename_i t len ps
  have hrw:opRW o.op=true:=by rw [heq];rfl
  obtain ⟨v,w,h1,h2,h3⟩:=buildSliceK_x h
  have hfp :∀r ∈ (cx.np + o.dst.getD 0)::AV.refs.refsL ((ps.toList.map fun (i,x)=>(i,av x)).map (·.2)),r ∈ fpOf cx.np o av:=by
   intro r hr
   rcases List.mem_cons.1 hr with hr | hr
   ·rw [hr];exact fp_self hrw
   ·obtain ⟨x,hx,hr⟩:=refs_partL hr
    exact fp_opd (by rw [heq];simpa [Op.operands] using hx) (by rw [heq];rfl) r hr
  refine ⟨v,w,h1,fun e=>by rw [hrw] at e;simp at e,fun q hq=>hfp _ (h2 q hq),fun av' ob' hav ha K' hK=>?_⟩
  unfold opK;rw [heq];simp only
  rw [parts_congr (av:=av) ps.toList fun x hx=>hav x (by rw [heq];simpa [Op.operands] using hx)]
  exact h3 ob' (ha.mono hfp) _ hK
 ·rename_i t x
  obtain ⟨v,h1,h2⟩:=loadG_x h
  refine .pure v h1 fun av' ob' hav ha K' hK=>?_
  unfold opK;rw [heq];simp only
  rw [hav x (by rw [heq];simp [Op.operands])]
  exact h2 ob' (opd x (by rw [heq];simp [Op.operands]) (by rw [heq];rfl) ha) (fun v=>K' v []) hK
 ·rename_i t a x
  have hrw:opRW o.op=true:=by rw [heq];rfl
  obtain ⟨v,w,h1,h2,h3⟩:=storeG_x h
  have hnx :∀r ∈ (nilT cx.T t (av x)).refs,r ∈ (av x).refs:=by
   intro r hr
   unfold nilT at hr
   split at hr
   ·split at hr
    ·simp [AV.refs] at hr
    ·exact hr
   ·exact hr
  have hfp :∀r ∈ (av a).refs ++ (nilT cx.T t (av x)).refs,r ∈ fpOf cx.np o av:=by
   intro r hr
   rcases List.mem_append.1 hr with hr | hr
   ·exact fp_opd (x:=a) (by rw [heq];simp [Op.operands]) (by rw [heq];rfl) r hr
   ·exact fp_opd (x:=x) (by rw [heq];simp [Op.operands]) (by rw [heq];rfl) r (hnx r hr)
  refine ⟨v,w,h1,fun e=>by rw [hrw] at e;simp at e,fun q hq=>hfp _ (h2 q hq),fun av' ob' hav ha K' hK=>?_⟩
  unfold opK;rw [heq];simp only
  rw [hav a (by rw [heq];simp [Op.operands]),hav x (by rw [heq];simp [Op.operands])]
  exact h3 ob' (ha.mono hfp) _ hK
 ·rename_i x
  split at h
  all_goals first | exact h.elim | skip
  all_goals
   rename_i hx
   refine .pure _ h fun av' ob' hav ha K' hK=>?_
   unfold opK;rw [heq];simp only
   rw [hav x (by rw [heq];simp [Op.operands]),hx]
   exact hK
 ·rename_i op t x y _
  obtain ⟨v,h1,h2⟩:=binK_x h
  refine .pure v h1 fun av' ob' hav ha K' hK=>?_
  unfold opK;rw [heq];simp only
  rw [hav x (by rw [heq];simp [Op.operands]),hav y (by rw [heq];simp [Op.operands])]
  exact h2 (fun v=>K' v []) hK
 ·rename_i op t x
  obtain ⟨v,h1,h2⟩:=unK_x h
  refine .pure v h1 fun av' ob' hav ha K' hK=>?_
  unfold opK;rw [heq];simp only
  rw [hav x (by rw [heq];simp [Op.operands])]
  exact h2 (fun v=>K' v []) hK
 ·rename_i src dst x
  obtain ⟨v,h1,h2⟩:=convK_x h
  refine .pure v h1 fun av' ob' hav ha K' hK=>?_
  unfold opK;rw [heq];simp only
  rw [hav x (by rw [heq];simp [Op.operands])]
  exact h2 ob' (opd x (by rw [heq];simp [Op.operands]) (by rw [heq];rfl) ha) (fun v=>K' v []) hK
 ·rename_i t x i
  obtain ⟨a,b,c,h,hf⟩:=fieldOff_x h
  split at h
  ·rename_i r off hx
   refine .pure _ h fun av' ob' hav ha K' hK=>?_
   unfold opK;rw [heq];simp only
   rw [hav x (by rw [heq];simp [Op.operands]),hx]
   exact hf _ hK
  ·rename_i cs hx
   rw [dropK_iff,takeK_iff] at h
   refine .pure _ h fun av' ob' hav ha K' hK=>?_
   unfold opK;rw [heq];simp only
   rw [hav x (by rw [heq];simp [Op.operands]),hx]
   refine hf _ ?_
   simp only
   rw [dropK_iff,takeK_iff]
   exact hK
  ·rename_i r n i k hx
   obtain ⟨q,h,ho⟩:=findO_x h
   cases q with
   | box=>exact h.elim
   | map=>exact h.elim
   | amap=>exact h.elim
   | gone=>exact h.elim
   | row e sz es f=>
    refine .pure _ h.2 fun av' ob' hav ha K' hK=>?_
    unfold opK;rw [heq];simp only
    rw [hav x (by rw [heq];simp [Op.operands]),hx]
    exact hf _ (ho ob' (opd x (by rw [heq];simp [Op.operands]) (by rw [heq];rfl) ha r (by rw [hx];simp [AV.refs])) _ ⟨h.1,hK⟩)
  ·exact h.elim
 ·rename_i t x i
  obtain ⟨v,h1,h2⟩:=fieldK_x h
  refine .pure v h1 fun av' ob' hav ha K' hK=>?_
  unfold opK;rw [heq];simp only
  rw [hav x (by rw [heq];simp [Op.operands])]
  exact h2 (fun v=>K' v []) hK
 ·rename_i t x y
  obtain ⟨v,h1,h2⟩:=indexAddrK_x h
  refine .pure v h1 fun av' ob' hav ha K' hK=>?_
  unfold opK;rw [heq];simp only
  rw [hav x (by rw [heq];simp [Op.operands]),hav y (by rw [heq];simp [Op.operands])]
  exact h2 ob' (opd x (by rw [heq];simp [Op.operands]) (by rw [heq];rfl) ha) (fun v=>K' v []) hK
 ·rename_i t x y
  obtain ⟨v,h1,h2⟩:=indexK_x h
  refine .pure v h1 fun av' ob' hav ha K' hK=>?_
  unfold opK;rw [heq];simp only
  rw [hav x (by rw [heq];simp [Op.operands]),hav y (by rw [heq];simp [Op.operands])]
  exact h2 (fun v=>K' v []) hK
 ·rename_i t
  have hrw:opRW o.op=true:=by rw [heq];rfl
  split at h
  ·rename_i k e hk
   have h0:=h
   rw [noO_iff] at h
   obtain ⟨_,h⟩:=h
   refine ⟨_,_,h,fun e=>by rw [hrw] at e;simp at e,fun q hq=>by simp only [List.mem_singleton] at hq;rw [hq];exact fp_self hrw,fun av' ob' hav ha K' hK=>?_⟩
   unfold opK;rw [heq];simp only [hk]
   exact noO_x h0 (self hrw ha) hK
  ·exact h.elim
 ·rename_i t x y ok
  obtain ⟨v,h1,h2⟩:=lookG_x h
  refine .pure v h1 fun av' ob' hav ha K' hK=>?_
  unfold opK;rw [heq];simp only
  rw [hav x (by rw [heq];simp [Op.operands]),hav y (by rw [heq];simp [Op.operands])]
  exact h2 ob' (opd x (by rw [heq];simp [Op.operands]) (by rw [heq];rfl) ha) (fun v=>K' v []) hK
 ·rename_i t mm k v
  have hrw:opRW o.op=true:=by rw [heq];rfl
  obtain ⟨u,w,h1,h2,h3⟩:=mapPutK_x h
  have hfp :∀r ∈ (av mm).refs ++ (av v).refs,r ∈ fpOf cx.np o av:=by
   intro r hr
   rcases List.mem_append.1 hr with hr | hr
   ·exact fp_opd (x:=mm) (by rw [heq];simp [Op.operands]) (by rw [heq];rfl) r hr
   ·exact fp_opd (x:=v) (by rw [heq];simp [Op.operands]) (by rw [heq];rfl) r hr
  refine ⟨u,w,h1,fun e=>by rw [hrw] at e;simp at e,fun q hq=>hfp _ (h2 q hq),fun av' ob' hav ha K' hK=>?_⟩
  unfold opK;rw [heq];simp only
  rw [hav mm (by rw [heq];simp [Op.operands]),hav k (by rw [heq];simp [Op.operands]),hav v (by rw [heq];simp [Op.operands])]
  exact h3 ob' (ha.mono hfp) _ hK
 ·rename_i t mm k v
  have hrw:opRW o.op=true:=by rw [heq];rfl
  obtain ⟨u,w,h1,h2,h3⟩:=mapPutK_x h
  have hfp :∀r ∈ (av mm).refs ++ (av v).refs,r ∈ fpOf cx.np o av:=by
   intro r hr
   rcases List.mem_append.1 hr with hr | hr
   ·exact fp_opd (x:=mm) (by rw [heq];simp [Op.operands]) (by rw [heq];rfl) r hr
   ·exact fp_opd (x:=v) (by rw [heq];simp [Op.operands]) (by rw [heq];rfl) r hr
  refine ⟨u,w,h1,fun e=>by rw [hrw] at e;simp at e,fun q hq=>hfp _ (h2 q hq),fun av' ob' hav ha K' hK=>?_⟩
  unfold opK;rw [heq];simp only
  rw [hav mm (by rw [heq];simp [Op.operands]),hav k (by rw [heq];simp [Op.operands]),hav v (by rw [heq];simp [Op.operands])]
  exact h3 ob' (ha.mono hfp) _ hK
 ·rename_i t x lo hi
  have hrw:opRW o.op=true:=by rw [heq];rfl
  obtain ⟨v,w,h1,_,h2,h3⟩:=sliceK_x h
  have hfp :∀r ∈ (cx.np + o.dst.getD 0)::(nilT cx.T t (av x)).refs,r ∈ fpOf cx.np o av:=by
   intro r hr
   rcases List.mem_cons.1 hr with hr | hr
   ·rw [hr];exact fp_self hrw
   refine fp_opd (x:=x) (by rw [heq];simp [Op.operands]) (by rw [heq];rfl) r ?_
   unfold nilT at hr
   split at hr
   ·split at hr
    ·simp [AV.refs] at hr
    ·exact hr
   ·exact hr
  refine ⟨v,w,h1,fun e=>by rw [hrw] at e;simp at e,fun q hq=>hfp _ (h2 q hq),fun av' ob' hav ha K' hK=>?_⟩
  unfold opK;rw [heq];simp only
  have e1:nilT cx.T t (av' x)=nilT cx.T t (av x):=by rw [hav x (by rw [heq];simp [Op.operands])]
  have e2:lo.map av'=lo.map av:=by
   cases lo with
   | none=>rfl
   | some y=>simp only [Option.map_some];rw [hav y (by rw [heq];simp [Op.operands])]
  have e3:hi.map av'=hi.map av:=by
   cases hi with
   | none=>rfl
   | some y=>simp only [Option.map_some];rw [hav y (by rw [heq];simp [Op.operands])]
  rw [e1,e2,e3]
  exact h3 ob' (ha.mono hfp) _ hK
 ·rename_i t x lo hi mx
  have hrw:opRW o.op=true:=by rw [heq];rfl
  obtain ⟨v,w,h1,_,h2,h3⟩:=slice3K_x h
  have hfp :∀r ∈ (cx.np + o.dst.getD 0)::(av x).refs,r ∈ fpOf cx.np o av:=by
   intro r hr
   rcases List.mem_cons.1 hr with hr | hr
   ·rw [hr];exact fp_self hrw
   exact fp_opd (x:=x) (by rw [heq];simp [Op.operands]) (by rw [heq];rfl) r hr
  refine ⟨v,w,h1,fun e=>by rw [hrw] at e;simp at e,fun q hq=>hfp _ (h2 q hq),fun av' ob' hav ha K' hK=>?_⟩
  unfold opK;rw [heq];simp only
  have e1:av' x=av x:=hav x (by rw [heq];simp [Op.operands])
  have e2:lo.map av'=lo.map av:=by
   cases lo with
   | none=>rfl
   | some y=>simp only [Option.map_some];rw [hav y (by rw [heq];simp [Op.operands])]
  have e3:hi.map av'=hi.map av:=by
   cases hi with
   | none=>rfl
   | some y=>simp only [Option.map_some];rw [hav y (by rw [heq];simp [Op.operands])]
  have e4:av' mx=av mx:=hav mx (by rw [heq];simp [Op.operands])
  rw [e1,e2,e3,e4]
  exact h3 ob' (ha.mono hfp) _ hK
 ·rename_i t n c
  have hrw:opRW o.op=true:=by rw [heq];rfl
  unfold makeK at h
  split at h
  ·rename_i e n' c' hk hn hc
   have h0:=h
   rw [noO_iff] at h
   obtain ⟨_,h⟩:=h
   rw [onlyIf_iff] at h
   obtain ⟨h1,hb,z,hz,zs,hzs,h⟩:=h
   refine ⟨_,_,h,fun e=>by rw [hrw] at e;simp at e,fun q hq=>by simp only [List.mem_singleton] at hq;rw [hq];exact fp_self hrw,fun av' ob' hav ha K' hK=>?_⟩
   unfold opK;rw [heq];simp only
   unfold makeK
   rw [hav n (by rw [heq];simp [Op.operands]),hav c (by rw [heq];simp [Op.operands]),hk,hn,hc]
   simp only
   refine noO_x h0 (self hrw ha) ?_
   exact (onlyIf_iff _ _).2 ⟨h1,hb,z,hz,zs,hzs,hK⟩
  ·exact h.elim
 ·rename_i x i
  split at h
  ·rename_i vs hx
   split at h
   ·rename_i a hi
    obtain ⟨v,h1,h2⟩:=force_x h
    refine .pure v h1 fun av' ob' hav ha K' hK=>?_
    unfold opK;rw [heq];simp only
    rw [hav x (by rw [heq];simp [Op.operands]),hx]
    simp only [hi]
    exact h2 (fun v=>K' v []) hK
   ·exact h.elim
  ·exact h.elim
 ·rename_i f first caps
  split at h
  ·rename_i hf
   refine .pure _ h fun av' ob' hav ha K' hK=>?_
   unfold opK;rw [heq];simp only [hf]
   rw [List.map_congr_left (g:=av) fun x hx=>hav x (by rw [heq];simp only [Op.operands,Array.toList_append,List.mem_append];exact .inr hx)]
   exact hK
  ·exact h.elim
 ·rename_i c
  split at h
  ·rename_i x hc
   have hops:o.op.operands.toList=x::c.args.toList:=by rw [heq];simp [Op.operands,Call.operands,hc]
   have hrw:opRW o.op=true:=by rw [heq];simp [opRW,hc]
   obtain ⟨f,caps,h,hx⟩:=fnK_inv h
   ·obtain ⟨v,w,h1,h2,h3⟩:=callK_x h
    have hxr :∀r ∈ AV.refs.refsL caps,r ∈ (av x).refs:=by
     intro r hr
     rcases hx with hx | ⟨hx,rfl⟩
     ·rw [hx];exact hr
     ·simp [AV.refs.refsL] at hr
    have hfp :∀r ∈ (cx.np + o.dst.getD 0)::AV.refs.refsL (argsT cx.T av c.args.toList c.argTypes.toList ++ caps),r ∈ fpOf cx.np o av:=by
     intro r hr
     rcases List.mem_cons.1 hr with hr | hr
     ·rw [hr];exact fp_self hrw
     ·obtain ⟨a,ha,hr⟩:=refsL_mem.1 hr
      rcases List.mem_append.1 ha with ha | ha
      ·obtain ⟨y,hy,hr2⟩:=argsT_refs ha
       exact fp_opd (x:=y) (by rw [hops];simp only [List.mem_cons];exact .inr hy) (by rw [heq];rfl) r (hr2 r hr)
      ·exact fp_opd (x:=x) (by rw [hops];simp) (by rw [heq];rfl) r (hxr r (refsL_mem.2 ⟨a,ha,hr⟩))
    refine ⟨v,w,h1,fun e=>by rw [hrw] at e;simp at e,fun q hq=>hfp _ (h2 q hq),fun av' ob' hav ha K' hK=>?_⟩
    unfold opK;rw [heq];simp only [hc]
    rw [hav x (by rw [hops];simp),argsT_congr (av:=av) _ _ fun y hy=>hav y (by rw [hops];simp only [List.mem_cons];exact .inr hy)]
    exact fnK_of (h3 ob' (ha.mono hfp) _ hK) hx
  ·rename_i hc
   have hops:o.op.operands.toList=c.args.toList:=by rw [heq];simp [Op.operands,Call.operands,hc]
   split at h
   ·rename_i x t hx ht
    obtain ⟨v,h1,h2⟩:=lenK_x h
    refine .pure v h1 fun av' ob' hav ha K' hK=>?_
    unfold opK;rw [heq];simp only [hc,hx,ht]
    rw [hav x (by rw [hops,hx];simp)]
    exact h2 (fun v=>K' v []) hK
   ·exact h.elim
  ·rename_i hc
   have hops:o.op.operands.toList=c.args.toList:=by rw [heq];simp [Op.operands,Call.operands,hc]
   have hrw:opRW o.op=true:=by rw [heq];simp [opRW,hc]
   split at h
   ·rename_i x y t u hx ht
    rw [onlyIf_iff] at h
    obtain ⟨h0,h⟩:=h
    obtain ⟨v,w,h1,h2,h3⟩:=appendK_x h
    have hfp :∀r ∈ (cx.np + o.dst.getD 0)::((nilT cx.T t (av x)).refs ++ (nilT cx.T t (av y)).refs),r ∈ fpOf cx.np o av:=by
     intro r hr
     rcases List.mem_cons.1 hr with hr | hr
     ·rw [hr];exact fp_self hrw
     ·rcases List.mem_append.1 hr with hr | hr
      ·exact fp_opd (x:=x) (by rw [hops,hx];simp) (by rw [heq];rfl) r (nilT_refs r hr)
      ·exact fp_opd (x:=y) (by rw [hops,hx];simp) (by rw [heq];rfl) r (nilT_refs r hr)
    refine ⟨v,w,h1,fun e=>by rw [hrw] at e;simp at e,fun q hq=>hfp _ (by
     rcases List.mem_cons.1 (h2 q hq) with e | e
     ·rw [e];simp
     ·exact List.mem_cons_of_mem _ (List.mem_append_left _ e)),fun av' ob' hav ha K' hK=>?_⟩
    unfold opK;rw [heq];simp only [hc,hx,ht]
    rw [hav x (by rw [hops,hx];simp),hav y (by rw [hops,hx];simp)]
    exact (onlyIf_iff _ _).2 ⟨h0,h3 ob' (ha.mono hfp) _ hK⟩
   ·exact h.elim
  ·rename_i hc
   have hops:o.op.operands.toList=c.args.toList:=by rw [heq];simp [Op.operands,Call.operands,hc]
   have hrw:opRW o.op=true:=by rw [heq];simp [opRW,hc]
   split at h
   ·rename_i x t hx ht
    split at h
    ·rename_i r a n m hxo
     obtain ⟨v,w,h1,h2,h3⟩:=clearK_x h
     have hfp :∀q ∈ [r],q ∈ fpOf cx.np o av:=by
      intro q hq
      refine fp_opd (x:=x) (by rw [hops,hx];simp) (by rw [heq];rfl) q ?_
      rw [hxo];simpa [AV.refs] using hq
     refine ⟨v,w,h1,fun e=>by rw [hrw] at e;simp at e,fun q hq=>hfp _ (h2 q hq),fun av' ob' hav ha K' hK=>?_⟩
     unfold opK;rw [heq];simp only [hc,hx,ht]
     rw [hav x (by rw [hops,hx];simp),hxo]
     exact h3 ob' (ha.mono hfp) _ hK
    ·exact h.elim
   ·exact h.elim
  ·rename_i hc
   have hops:o.op.operands.toList=c.args.toList:=by rw [heq];simp [Op.operands,Call.operands,hc]
   split at h
   ·rename_i x y hx
    obtain ⟨v,h1,h2⟩:=maxK_x h
    refine .pure v h1 fun av' ob' hav ha K' hK=>?_
    unfold opK;rw [heq];simp only [hc,hx]
    rw [hav x (by rw [hops,hx];simp),hav y (by rw [hops,hx];simp)]
    exact h2 (fun v=>K' v []) hK
   ·exact h.elim
  ·rename_i hc
   have hops:o.op.operands.toList=c.args.toList:=by rw [heq];simp [Op.operands,Call.operands,hc]
   split at h
   ·rename_i x y hx
    obtain ⟨v,h1,h2⟩:=minK_x h
    refine .pure v h1 fun av' ob' hav ha K' hK=>?_
    unfold opK;rw [heq];simp only [hc,hx]
    rw [hav x (by rw [hops,hx];simp),hav y (by rw [hops,hx];simp)]
    exact h2 (fun v=>K' v []) hK
   ·exact h.elim
  ·exact h.elim
 ·exact h.elim
theorem opK_xs {cx:Cx} {o:Oper} {av:Operand→AV} {ob:List (Option OB)} {K:AV→W→Prop} (h:opK cx o av ob K) :
  ∃v w,K v w∧(opRW o.op=false→w=[])∧(isSl o.op=true→v.isOsl=true→w=[])∧(∀x,apX o.op=some x→∀q ∈ w,q.1 ∈ (cx.np + o.dst.getD 0)::(av x).refs)∧(∀q ∈ w,q.1 ∈ fpOf cx.np o av)∧
   ∀av' ob',(∀x ∈ o.op.operands.toList,av' x=av x)→Agree (fpOf cx.np o av) ob ob'→∀K':AV→W→Prop,K' v w→opK cx o av' ob' K':=by
 by_cases hs:isSl o.op=true
 case neg=>
  cases hap:apX o.op with
  | none=>
   obtain ⟨v,w,h1,h2,h3,h4⟩:=opK_x h
   exact ⟨v,w,h1,h2,fun e=>absurd e hs,fun x e=>by simp at e,h3,h4⟩
  | some x=>
   obtain ⟨c,y,heq,hc,hx⟩ :∃c y,o.op=.call c∧c.callee=.builtin .append∧c.args.toList=[x,y]:=by
    unfold apX at hap
    split at hap
    ·rename_i c heq
     split at hap
     ·rename_i x' y' hc hx
      simp only [Option.some.injEq] at hap
      subst hap
      exact ⟨c,_,heq,hc,hx⟩
     ·simp at hap
    ·simp at hap
   have hops:o.op.operands.toList=c.args.toList:=by rw [heq];simp [Op.operands,Call.operands,hc]
   have hrw:opRW o.op=true:=by rw [heq];simp [opRW,hc]
   unfold opK at h
   rw [heq] at h
   simp only [hc,hx] at h
   split at h
   ·rename_i x' y' t u hx' ht
    simp only [List.cons.injEq,and_true] at hx'
    obtain ⟨rfl,rfl⟩:=hx'
    rw [onlyIf_iff] at h
    obtain ⟨h0,h⟩:=h
    obtain ⟨v,w,h1,h2,h3⟩:=appendK_x h
    have hfp :∀r ∈ (cx.np + o.dst.getD 0)::((nilT cx.T t (av x)).refs ++ (nilT cx.T t (av y)).refs),r ∈ fpOf cx.np o av:=by
     intro r hr
     rcases List.mem_cons.1 hr with hr | hr
     ·rw [hr];exact fp_self hrw
     ·rcases List.mem_append.1 hr with hr | hr
      ·exact fp_opd (x:=x) (by rw [hops,hx];simp) (by rw [heq];rfl) r (nilT_refs r hr)
      ·exact fp_opd (x:=y) (by rw [hops,hx];simp) (by rw [heq];rfl) r (nilT_refs r hr)
    refine ⟨v,w,h1,fun e=>by rw [hrw] at e;simp at e,fun e=>absurd e hs,fun x2 e q hq=>?_,fun q hq=>hfp _ (by
     rcases List.mem_cons.1 (h2 q hq) with e | e
     ·rw [e];simp
     ·exact List.mem_cons_of_mem _ (List.mem_append_left _ e)),fun av' ob' hav ha K' hK=>?_⟩
    ·simp only [Option.some.injEq] at e
     subst e
     rcases List.mem_cons.1 (h2 q hq) with e | e
     ·rw [e];simp
     ·exact List.mem_cons_of_mem _ (nilT_refs _ e)
    ·unfold opK;rw [heq];simp only [hc,hx,ht]
     rw [hav x (by rw [hops,hx];simp),hav y (by rw [hops,hx];simp)]
     exact (onlyIf_iff _ _).2 ⟨h0,h3 ob' (ha.mono hfp) _ hK⟩
   ·exact h.elim
 obtain ⟨t,x,lo,hi,mx,heq⟩ :∃t x lo hi mx,o.op=.slice t x lo hi mx:=by
  revert hs
  cases o.op<;>simp [isSl]
 cases mx with
 | some y=>
  unfold opK at h
  rw [heq] at h
  simp only at h
  have hrw:opRW o.op=true:=by rw [heq];rfl
  obtain ⟨v,w,h1,hos,h2,h3⟩:=slice3K_x h
  have hfp :∀r ∈ (cx.np + o.dst.getD 0)::(av x).refs,r ∈ fpOf cx.np o av:=by
   intro r hr
   rcases List.mem_cons.1 hr with hr | hr
   ·rw [hr];exact fp_self hrw
   exact fp_opd (x:=x) (by rw [heq];simp [Op.operands]) (by rw [heq];rfl) r hr
  refine ⟨v,w,h1,fun e=>by rw [hrw] at e;simp at e,fun _=>hos,fun x2 e=>by rw [heq] at e;simp [apX] at e,fun q hq=>hfp _ (h2 q hq),fun av' ob' hav ha K' hK=>?_⟩
  unfold opK;rw [heq];simp only
  have e1:av' x=av x:=hav x (by rw [heq];simp [Op.operands])
  have e2:lo.map av'=lo.map av:=by
   cases lo with
   | none=>rfl
   | some y=>simp only [Option.map_some];rw [hav y (by rw [heq];simp [Op.operands])]
  have e3:hi.map av'=hi.map av:=by
   cases hi with
   | none=>rfl
   | some y=>simp only [Option.map_some];rw [hav y (by rw [heq];simp [Op.operands])]
  have e4:av' y=av y:=hav y (by rw [heq];simp [Op.operands])
  rw [e1,e2,e3,e4]
  exact h3 ob' (ha.mono hfp) _ hK
 | none=>
 unfold opK at h
 rw [heq] at h
 simp only at h
 have hrw:opRW o.op=true:=by rw [heq];rfl
 obtain ⟨v,w,h1,hos,h2,h3⟩:=sliceK_x h
 have hfp :∀r ∈ (cx.np + o.dst.getD 0)::(nilT cx.T t (av x)).refs,r ∈ fpOf cx.np o av:=by
  intro r hr
  rcases List.mem_cons.1 hr with hr | hr
  ·rw [hr];exact fp_self hrw
  refine fp_opd (x:=x) (by rw [heq];simp [Op.operands]) (by rw [heq];rfl) r ?_
  unfold nilT at hr
  split at hr
  ·split at hr
   ·simp [AV.refs] at hr
   ·exact hr
  ·exact hr
 refine ⟨v,w,h1,fun e=>by rw [hrw] at e;simp at e,fun _=>hos,fun x2 e=>by rw [heq] at e;simp [apX] at e,fun q hq=>hfp _ (h2 q hq),fun av' ob' hav ha K' hK=>?_⟩
 unfold opK;rw [heq];simp only
 have e1:nilT cx.T t (av' x)=nilT cx.T t (av x):=by rw [hav x (by rw [heq];simp [Op.operands])]
 have e2:lo.map av'=lo.map av:=by
  cases lo with
  | none=>rfl
  | some y=>simp only [Option.map_some];rw [hav y (by rw [heq];simp [Op.operands])]
 have e3:hi.map av'=hi.map av:=by
  cases hi with
  | none=>rfl
  | some y=>simp only [Option.map_some];rw [hav y (by rw [heq];simp [Op.operands])]
 rw [e1,e2,e3]
 exact h3 ob' (ha.mono hfp) _ hK
end Go.AX
end
section
namespace Go.AX
def app (dst:Option Nat) (v:AV) (w:W) (st:ASt):ASt:=⟨putL st.tm dst v,wrL st.ob w⟩
def Look (ops:Array Oper) (o:Oper) (st st':ASt):Prop:=∀t ∈ o.looksAt ops,st'.tm.getD t .dead=st.tm.getD t .dead
structure StpE (cx:Cx) (ops:Array Oper) (o:Oper) (st:ASt) (e:List Nat×List Nat) (v:AV) (w:W):Prop where
 ee:e.1=opFp cx.np o st.tm
 wr :∀q ∈ w,q.1 ∈ e.2
 sub :∀q ∈ w,q.1 ∈ e.1
 go :∀st',Look ops o st st'→Agree e.1 st.ob st'.ob→∀K:ASt→Prop,K (app o.dst v w st')→stepK cx ops o st' K
theorem look_evO {ops:Array Oper} {o:Oper} {st st':ASt} (h:Look ops o st st') :∀x ∈ o.op.operands.toList,evO st'.tm x=evO st.tm x:=by
 intro x hx
 cases x with
 | tmp t=>exact h t (List.mem_append_left _ (List.mem_filterMap.2 ⟨.tmp t,hx,rfl⟩))
 | _=>rfl
theorem flatMap_congr' {α β:Type} {f g:α→List β} :∀{l:List α},(∀x ∈ l,f x=g x)→l.flatMap f=l.flatMap g
 | [],_=>rfl
 | x::l,h=>by
  simp only [List.flatMap_cons]
  rw [h x (by simp),flatMap_congr' fun y hy=>h y (by simp [hy])]
theorem look_fp {np:Nat} {ops:Array Oper} {o:Oper} {st st':ASt} (h:Look ops o st st'):opFp np o st'.tm=opFp np o st.tm:=by
 unfold opFp
 congr 1
 refine flatMap_congr' fun x hx=>?_
 have hm:x ∈ o.op.operands.toList:=by
  unfold opRefs at hx
  split at hx
  all_goals first
   | (simp at hx;done)
   | exact hx
 rw [look_evO h x hm]
theorem Look.trans {ops:Array Oper} {o:Oper} {a b c:ASt} (h:Look ops o a b) (k:Look ops o b c):Look ops o a c:=fun t ht=>(k t ht).trans (h t ht)
theorem Agree.trans {rs:List Nat} {a b c:List (Option OB)} (h:Agree rs a b) (k:Agree rs b c):Agree rs a c:=fun t ht=>(k t ht).trans (h t ht)
theorem Look.symm {ops:Array Oper} {o:Oper} {a b:ASt} (h:Look ops o a b):Look ops o b a:=fun t ht=>(h t ht).symm
theorem Agree.symm {rs:List Nat} {a b:List (Option OB)} (h:Agree rs a b):Agree rs b a:=fun t ht=>(h t ht).symm
theorem StpE.move {cx:Cx} {ops:Array Oper} {o:Oper} {st st2:ASt} {e:List Nat×List Nat} {v:AV} {w:W} (h:StpE cx ops o st e v w) (hl:Look ops o st st2) (ha:Agree e.1 st.ob st2.ob):StpE cx ops o st2 e v w:=
 ⟨by rw [look_fp hl];exact h.ee,h.wr,h.sub,fun st' hl' ha' K hK=>h.go st' (hl.trans hl') (ha.trans ha') K hK⟩
theorem set_known {tm:List AV} {t:Nat} {a:AV} (h:tm.getD t .dead=a):tm.set t a=tm:=by
 by_cases ht:t < tm.length
 ·have:tm[t]=a:=by simpa [ht] using h
  rw [← this];exact List.set_getElem_self ht
 ·exact List.set_eq_of_length_le (by omega)
theorem guardK_x {ops:Array Oper} {o:Oper} {tm:List AV} {yes no:List AV→Prop} (h:guardK ops o tm yes no) :
  (yes tm∧∀tm' yes' no',(∀t ∈ o.looksAt ops,tm'.getD t .dead=tm.getD t .dead)→yes' tm'→guardK ops o tm' yes' no') ∨
  (no tm∧∀tm' yes' no',(∀t ∈ o.looksAt ops,tm'.getD t .dead=tm.getD t .dead)→no' tm'→guardK ops o tm' yes' no'):=by
 unfold guardK at h ⊢
 cases hg:o.guard with
 | none=>simp only [hg] at h ⊢;exact .inl ⟨h,fun _ _ _ _ hy=>hy⟩
 | some g=>
  obtain ⟨j,want⟩:=g
  simp only [hg] at h ⊢
  cases hd:(ops[j]?).bind (·.dst) with
  | none=>simp only [hd] at h
  | some t=>
   simp only [hd] at h ⊢
   have hm:t ∈ o.looksAt ops:=List.mem_append_right _ (by rw [hg];simp [hd])
   split at h
   ·rename_i b hb
    have hs :∀{tm':List AV},tm'.getD t .dead=tm.getD t .dead→tm'.set t (.b b)=tm':=fun hq=>set_known (hq.trans hb)
    have hs0:=hs (tm':=tm) rfl
    cases b<;>cases want<;>simp only [selK,lsetK_iff] at h<;>rw [hs0] at h
    ·exact .inl ⟨h,fun tm' yes' no' hl hy=>by rw [hl t hm,hb];simp only [selK,lsetK_iff];rw [hs (hl t hm)];exact hy⟩
    ·exact .inr ⟨h,fun tm' yes' no' hl hy=>by rw [hl t hm,hb];simp only [selK,lsetK_iff];rw [hs (hl t hm)];exact hy⟩
    ·exact .inr ⟨h,fun tm' yes' no' hl hy=>by rw [hl t hm,hb];simp only [selK,lsetK_iff];rw [hs (hl t hm)];exact hy⟩
    ·exact .inl ⟨h,fun tm' yes' no' hl hy=>by rw [hl t hm,hb];simp only [selK,lsetK_iff];rw [hs (hl t hm)];exact hy⟩
   ·rename_i vs hb
    exact .inr ⟨h,fun tm' yes' no' hl hy=>by rw [hl t hm,hb];exact hy⟩
   ·exact h.elim
theorem stepK_x {cx:Cx} {ops:Array Oper} {o:Oper} {st:ASt} {K:ASt→Prop} (h:stepK cx ops o st K) :
  ∃v w,K (app o.dst v w st)∧StpE cx ops o st (opFp cx.np o st.tm,evWr cx.np o st.tm (app o.dst v w st).tm) v w:=by
 obtain ⟨tm,ob⟩:=st
 simp only [stepK] at h
 rcases guardK_x h with ⟨h,hg⟩ | ⟨h,hg⟩
 ·obtain ⟨v,w,h1,h2,hos,hap,h3,h4⟩:=opK_xs h
  rw [putK_iff,wrK_iff] at h1
  refine ⟨v,w,h1,rfl,fun q hq=>?_,h3,fun st' hl ha K hK=>?_⟩
  ·simp only [evWr]
   split
   ·rename_i hs
    split
    ·rename_i d hd
     split
     ·rename_i e
      have:=hos hs (by
       simp only [app,hd,putL,List.getD_eq_getElem?_getD] at e
       by_cases hlt:d < tm.length
       ·rw [List.getElem?_set_self (by simpa using hlt)] at e
        exact e
       ·rw [List.getElem?_eq_none (by simpa using hlt)] at e
        simp [AV.isOsl] at e)
      rw [this] at hq;simp at hq
     ·exact h3 q hq
    ·exact h3 q hq
   ·split
    ·split
     ·rename_i x hx;exact hap x hx q hq
     ·exact h3 q hq
    ·rename_i e;rw [h2 e] at hq;simp at hq
  obtain ⟨tm',ob'⟩:=st'
  simp only [stepK]
  refine hg tm' _ _ hl (h4 _ ob' (look_evO hl) ha _ ?_)
  rw [putK_iff,wrK_iff]
  exact hK
 ·rw [putK_iff] at h
  refine ⟨.tup [],[],h,rfl,fun q hq=>by simp at hq,fun q hq=>by simp at hq,fun st' hl ha K hK=>?_⟩
  obtain ⟨tm',ob'⟩:=st'
  simp only [stepK]
  refine hg tm' _ _ hl ?_
  rw [putK_iff]
  exact hK
def Run (cx:Cx) (ops:Array Oper) (f:Nat→List Nat×List Nat) (fin:ASt):List Nat→ASt→Prop
 | [],st=>st=fin
 | i::l,st=>∃o v w,ops[i]?=some o∧StpE cx ops o st (f i) v w∧Run cx ops f fin l (app o.dst v w st)
structure Free (ops:Array Oper) (f:Nat→List Nat×List Nat) (j i:Nat):Prop where
 apart :∀a b,ops[j]?=some a→ops[i]?=some b→a.apart ops b=true
 conf:(∀r ∈ (f j).2,r ∉ (f i).1)∧∀r ∈ (f j).1,r ∉ (f i).2
theorem putL_look {tm:List AV} {d:Option Nat} {v:AV} {t:Nat} (h :∀x,d=some x→x ≠ t):(putL tm d v).getD t .dead=tm.getD t .dead:=by
 cases d with
 | none=>rfl
 | some x=>
  simp only [putL,List.getD_eq_getElem?_getD]
  rw [List.getElem?_set_ne (h x rfl)]
theorem wrL_other {r:Nat} :∀(w:W) (ob:List (Option OB)),(∀q ∈ w,q.1 ≠ r)→(wrL ob w)[r]?=ob[r]?
 | [],ob,_=>rfl
 | (x,o)::w,ob,h=>by
  simp only [wrL]
  rw [wrL_other w _ fun q hq=>h q (by simp [hq]),List.getElem?_set_ne (h (x,o) (by simp))]
theorem wrL_set_comm {r:Nat} {o:Option OB} :∀(w:W) (ob:List (Option OB)),(∀q ∈ w,q.1 ≠ r)→wrL (ob.set r o) w=(wrL ob w).set r o
 | [],ob,_=>rfl
 | (x,y)::w,ob,h=>by
  simp only [wrL]
  rw [List.set_comm _ _ (Ne.symm (h (x,y) (by simp))),wrL_set_comm w _ fun q hq=>h q (by simp [hq])]
theorem wrL_comm :∀(w w':W) (ob:List (Option OB)),(∀q ∈ w,∀q' ∈ w',q.1 ≠ q'.1)→wrL (wrL ob w) w'=wrL (wrL ob w') w
 | [],w',ob,_=>rfl
 | (x,y)::w,w',ob,h=>by
  simp only [wrL]
  rw [wrL_comm w w' _ fun q hq q' hq'=>h q (by simp [hq]) q' hq',wrL_set_comm w' ob fun q' hq'=>Ne.symm (h (x,y) (by simp) q' hq')]
theorem putL_comm (tm:List AV) {x y:Option Nat} (v u:AV) (h :∀d,x=some d→y ≠ some d):putL (putL tm x v) y u=putL (putL tm y u) x v:=by
 cases x with
 | none=>rfl
 | some d=>
  cases y with
  | none=>rfl
  | some e=>
   have hne:d ≠ e:=fun he=>h d rfl (he ▸ rfl)
   simp only [putL]
   rw [List.set_comm _ _ hne]
theorem bubble {cx:Cx} {ops:Array Oper} {f:Nat→List Nat×List Nat} {fin:ASt} {i:Nat} {post:List Nat} :∀(pre:List Nat) {st:ASt},(∀j ∈ pre,Free ops f j i)→Run cx ops f fin (pre ++ i::post) st→
  ∃o v w,ops[i]?=some o∧StpE cx ops o st (f i) v w∧Run cx ops f fin (pre ++ post) (app o.dst v w st)
 | [],st,_,h=>h
 | j::pre,st,hf,h=>by
  obtain ⟨a,va,wa,ha,sa,h⟩:=h
  obtain ⟨b,vb,wb,hb,sb,h⟩:=bubble pre (fun k hk=>hf k (by simp [hk])) h
  have hF:=hf j (by simp)
  obtain ⟨p1,p2,p3⟩:=Oper.apart_spec (hF.apart a b ha hb)
  have lb:Look ops b st (app a.dst va wa st):=fun t ht=>putL_look fun x hx e=>p1 x hx (e ▸ ht)
  have ab:Agree (f i).1 st.ob (app a.dst va wa st).ob:=fun r hr=>wrL_other wa _ fun q hq e=>hF.conf.1 q.1 (sa.wr q hq) (e ▸ hr)
  have sb0:StpE cx ops b st (f i) vb wb:=sb.move lb.symm ab.symm
  have la:Look ops a st (app b.dst vb wb st):=fun t ht=>putL_look fun x hx e=>p3 x hx (e ▸ ht)
  have aa:Agree (f j).1 st.ob (app b.dst vb wb st).ob:=fun r hr=>wrL_other wb _ fun q hq e=>hF.conf.2 r hr (e ▸ sb.wr q hq)
  have sa':StpE cx ops a (app b.dst vb wb st) (f j) va wa:=sa.move la aa
  refine ⟨b,vb,wb,hb,sb0,a,va,wa,ha,sa',?_⟩
  have he:app a.dst va wa (app b.dst vb wb st)=app b.dst vb wb (app a.dst va wa st):=by
   simp only [app]
   rw [putL_comm st.tm va vb p2,wrL_comm wa wb]
   intro q hq q' hq' e
   exact hF.conf.1 q.1 (sa.wr q hq) (e ▸ sb.sub q' hq')
  rw [he]
  exact h
end Go.AX
end
section
namespace Go.AX
theorem ancs_inv :∀(l:List Oper) (done:List Oper) (acc:List (List Nat)),acc.length=done.length→
  (∀p (hp:p < done.length),(preds done[p]).all (fun j=>Nat.blt j p)=true→∀k ∈ acc.getD (acc.length - 1 - p) [],k ∈ preds done[p] ∨∃q ∈ preds done[p],k ∈ acc.getD (acc.length - 1 - q) [])→
  (ancs l acc).length=(done ++ l).length∧∀p (hp:p < (done ++ l).length),(preds (done ++ l)[p]).all (fun j=>Nat.blt j p)=true→∀k ∈ (ancs l acc).getD ((ancs l acc).length - 1 - p) [],k ∈ preds (done ++ l)[p] ∨∃q ∈ preds (done ++ l)[p],k ∈ (ancs l acc).getD ((ancs l acc).length - 1 - q) []
 | [],done,acc,hlen,h=>by simpa [ancs,hlen] using h
 | o::l,done,acc,hlen,h=>by
  simp only [ancs]
  have:=ancs_inv l (done ++ [o]) (((preds o).flatMap fun j=>j::acc.getD (acc.length - 1 - j) [])::acc) (by simp [hlen]) ?_
  ·simpa using this
  ·intro p hp hb k hk
   simp only [List.length_append,List.length_cons,List.length_nil,Nat.zero_add] at hp
   have old :∀q,q < acc.length→(((preds o).flatMap fun j=>j::acc.getD (acc.length - 1 - j) [])::acc).getD ((((preds o).flatMap fun j=>j::acc.getD (acc.length - 1 - j) [])::acc).length - 1 - q) []=acc.getD (acc.length - 1 - q) []:=by
    intro q hq
    have:(((preds o).flatMap fun j=>j::acc.getD (acc.length - 1 - j) [])::acc).length - 1 - q=(acc.length - 1 - q) + 1:=by simp only [List.length_cons];omega
    rw [this,List.getD_cons_succ]
   rcases Nat.lt_or_ge p done.length with hlt | hge
   ·rw [old p (by omega)] at hk
    have hb':(preds done[p]).all (fun j=>Nat.blt j p)=true:=by simpa [List.getElem_append_left hlt] using hb
    rw [List.getElem_append_left hlt]
    rcases h p hlt hb' k hk with h1 | ⟨q,h1,h2⟩
    ·exact .inl h1
    ·refine .inr ⟨q,h1,?_⟩
     have:=List.all_eq_true.1 hb' q h1
     have hqp:q < p:=by simpa using this
     rw [old q (by omega)]
     exact h2
   ·have hpe:p=done.length:=by omega
    subst hpe
    have hge':(done ++ [o])[done.length]'(by simp)=o:=by simp
    rw [hge'] at hb ⊢
    have:(((preds o).flatMap fun j=>j::acc.getD (acc.length - 1 - j) [])::acc).length - 1 - done.length=0:=by simp only [List.length_cons];omega
    rw [this,List.getD_cons_zero] at hk
    obtain ⟨q,hq,hk⟩:=List.mem_flatMap.1 hk
    rcases List.mem_cons.1 hk with rfl | hk
    ·exact .inl hq
    ·refine .inr ⟨q,hq,?_⟩
     have:=List.all_eq_true.1 hb q hq
     have hqp:q < done.length:=by simpa using this
     rw [old q (by omega)]
     exact hk
theorem ancOf_step {ops:Array Oper} {p:Nat} {o:Oper} (ho:ops[p]?=some o) (hb:(preds o).all (fun j=>Nat.blt j p)=true) {k:Nat} (hk:k ∈ ancOf ops p) :
  k ∈ preds o ∨∃q ∈ preds o,k ∈ ancOf ops q:=by
 obtain ⟨h1,h2⟩:=ancs_inv ops.toList [] [] rfl (fun p hp=>by simp at hp)
 obtain ⟨hp,hpo⟩:=Array.getElem?_eq_some_iff.1 ho
 simp only [List.nil_append,Array.length_toList] at h1 h2
 have:=h2 p (by simpa using hp)
 simp only [Array.getElem_toList,hpo,h1] at this
 unfold ancOf at hk ⊢
 exact this hb k hk
theorem conf_spec {ops:Array Oper} {f:Nat→List Nat×List Nat} {i:Nat} {fp wr:List Nat} :∀(n j:Nat),confOK.conf ops i fp wr j ((List.range' j n).map f)=true→
  ∀k,j ≤ k→k < j + n→i ∈ ancOf ops k ∨ ((∀r ∈ wr,r ∉ (f k).1)∧∀r ∈ fp,r ∉ (f k).2)
 | 0,j,_,k,h1,h2=>by omega
 | n + 1,j,h,k,h1,h2=>by
  simp only [List.range'_succ,List.map_cons,confOK.conf] at h
  rw [show f j=((f j).1,(f j).2) from rfl] at h
  simp only [Bool.and_eq_true,Bool.or_eq_true] at h
  rcases Nat.eq_or_lt_of_le h1 with rfl | hlt
  ·rcases h.1 with h0 | h0
   ·exact .inl (by simpa using h0)
   ·refine .inr ⟨fun r hr=>?_,fun r hr=>?_⟩
    ·have:=List.all_eq_true.1 h0.1 r hr
     simpa using this
    ·have:=List.all_eq_true.1 h0.2 r hr
     simpa using this
  ·exact conf_spec n (j + 1) h.2 k (by omega) (by omega)
theorem confOK_spec {ops:Array Oper} {f:Nat→List Nat×List Nat} :∀(n i:Nat),confOK ops i ((List.range' i n).map f)=true→
  ∀j k,i ≤ j→j < k→k < i + n→j ∈ ancOf ops k ∨ ((∀r ∈ (f j).2,r ∉ (f k).1)∧∀r ∈ (f j).1,r ∉ (f k).2)
 | 0,i,_,j,k,h1,h2,h3=>by omega
 | n + 1,i,h,j,k,h1,h2,h3=>by
  simp only [List.range'_succ,List.map_cons] at h
  rw [show f i=((f i).1,(f i).2) from rfl] at h
  simp only [confOK,Bool.and_eq_true] at h
  rcases Nat.eq_or_lt_of_le h1 with rfl | hlt
  ·exact conf_spec n (i + 1) h.1 k (by omega) (by omega)
  ·exact confOK_spec n (i + 1) h.2 j k (by omega) h2 (by omega)
theorem opsDK_run {cx:Cx} {ops:Array Oper} :∀(os:List Oper) (i:Nat) (evs:List (List Nat×List Nat)) {st:ASt} {K:List (List Nat×List Nat)→ASt→Prop},
  (∀k (hk:k < os.length),ops[i + k]?=some os[k])→opsDK cx ops os evs st K→
  ∃(es:List (List Nat×List Nat)) (fin:ASt),es.length=os.length∧K (evs.reverse ++ es) fin∧∀f:Nat→List Nat×List Nat,(∀k (hk:k < es.length),f (i + k)=es[k])→Run cx ops f fin (List.range' i os.length) st
 | [],i,evs,st,K,_,h=>⟨[],st,rfl,by simpa [opsDK] using h,fun f _=>rfl⟩
 | o::os,i,evs,st,K,hi,h=>by
  have h:stepK cx ops o st fun st'=>opsDK cx ops os ((opFp cx.np o st.tm,evWr cx.np o st.tm st'.tm)::evs) st' K:=by
   obtain ⟨tm,ob⟩:=st;exact h
  obtain ⟨v,w,h,hs⟩:=stepK_x h
  obtain ⟨es,fin,h1,h2,h3⟩:=opsDK_run os (i + 1) _ (fun k hk=>by
   have:=hi (k + 1) (by simpa using hk)
   rw [show i + 1 + k=i + (k + 1) by omega,this];rfl) h
  refine ⟨(opFp cx.np o st.tm,evWr cx.np o st.tm (app o.dst v w st).tm)::es,fin,by simp [h1],by simpa using h2,fun f hf=>?_⟩
  simp only [List.length_cons,List.range'_succ]
  refine ⟨o,v,w,hi 0 (by simp),?_,h3 f fun k hk=>?_⟩
  ·have:=hf 0 (by simp)
   simp only [Nat.add_zero,List.getElem_cons_zero] at this
   rw [this];exact hs
  ·have:=hf (k + 1) (by simpa using hk)
   rw [show i + 1 + k=i + (k + 1) by omega,this];rfl
theorem drawOK_spec {ops:Array Oper} (h:drawOK ops=true) {i:Nat} {o:Oper} (ho:ops[i]?=some o) :
  (preds o).all (fun j=>Nat.blt j i)=true∧∀j,j < i→j ∈ ancOf ops i ∨∀q,ops[j]?=some q→q.apart ops o=true:=by
 obtain ⟨hi,_⟩:=Array.getElem?_eq_some_iff.1 ho
 have h1:=List.all_eq_true.1 h i (List.mem_range.2 hi)
 simp only [ho,Bool.and_eq_true] at h1
 refine ⟨h1.1.1,fun j hj=>?_⟩
 have h2:=List.all_eq_true.1 h1.2 j (List.mem_range.2 hj)
 simp only [Bool.or_eq_true] at h2
 rcases h2 with h2 | h2
 ·exact .inl (by simpa using h2)
 ·refine .inr fun q hq=>?_
  simpa [hq] using h2
theorem anc_listed {ops:Array Oper} (hd:drawOK ops=true) {listed:Nat→Prop} (hdown :∀i o,ops[i]?=some o→listed i→∀j ∈ preds o,listed j) :
  ∀(n i:Nat),i < n→i < ops.size→listed i→∀k ∈ ancOf ops i,listed k
 | 0,i,h,_,_=>by omega
 | n + 1,i,h,hi,hl=>by
  intro k hk
  have ho:ops[i]?=some ops[i]:=by simp [hi]
  obtain ⟨hb,_⟩:=drawOK_spec hd ho
  rcases ancOf_step ho hb hk with h1 | ⟨q,h1,h2⟩
  ·exact hdown i _ ho hl k h1
  ·have:=List.all_eq_true.1 hb q h1
   have hq:q < i:=by simpa using this
   exact anc_listed hd hdown n q (by omega) (by omega) (hdown i _ ho hl q h1) k h2
theorem ready_mem {ops:Array Oper} {listed:Array Bool} {i:Nat} (h:i ∈ Region.ready .any ops listed) :
  i < ops.size∧listed.getD i true=false∧∃o,ops[i]?=some o∧∀j ∈ preds o,listed.getD j false=true:=by
 unfold Region.ready at h
 rw [List.mem_filter,List.mem_range] at h
 obtain ⟨hi,h⟩:=h
 have ho:ops[i]?=some ops[i]:=by simp [hi]
 simp only [Bool.and_eq_true,ho,Option.map_some,Option.getD_some] at h
 refine ⟨hi,by simpa using h.1,_,ho,fun j hj=>?_⟩
 unfold preds at hj
 obtain ⟨e,he,rfl⟩:=List.mem_map.1 hj
 obtain ⟨he1,he2⟩:=List.mem_filter.1 he
 have:=Array.all_eq_true'.1 h.2 e (by simpa using he1)
 simpa [he2] using this
theorem mem_ready {ops:Array Oper} {listed:Array Bool} {i:Nat} {o:Oper} (ho:ops[i]?=some o) (hl:listed.getD i true=false) (hp :∀j ∈ preds o,listed.getD j false=true):i ∈ Region.ready .any ops listed:=by
 obtain ⟨hi,_⟩:=Array.getElem?_eq_some_iff.1 ho
 unfold Region.ready
 rw [List.mem_filter,List.mem_range]
 refine ⟨hi,?_⟩
 simp only [Bool.and_eq_true,ho,Option.map_some,Option.getD_some]
 refine ⟨by simp [hl],Array.all_eq_true'.2 fun e he=>?_⟩
 cases hb:Region.binds .any e with
 | false=>rfl
 | true=>
  simp only [Bool.not_true,Bool.false_or]
  exact hp e.on (List.mem_map.2 ⟨e,List.mem_filter.2 ⟨by simpa using he,hb⟩,rfl⟩)
section
variable {P:Program} {E:Env} {tr:Trk}
theorem any_sound {cx:Cx} (hT:TabOk P cx.T) (hC:CxOK E.wl P cx) {ops:Array Oper} {f:Nat→List Nat×List Nat} {fin:ASt} {Q:Exit→Act→World→Prop}
  (hd:drawOK ops=true) (hc :∀j k,j < k→k < ops.size→j ∈ ancOf ops k ∨ ((∀r ∈ (f j).2,r ∉ (f k).1)∧∀r ∈ (f j).1,r ∉ (f k).2))
  (hQ :∀a w,RR E tr fin a w→Q .normal a w) :∀(fuel:Nat) (L:List Nat) (listed:Array Bool) {st:ASt} {a:Act} {w:World},
  L.length=fuel→listed.size=ops.size→L.Pairwise (· < ·)→(∀k,k ∈ L ↔ k < ops.size∧listed.getD k true=false)→(∀i o,ops[i]?=some o→listed.getD i false=true→∀j ∈ preds o,listed.getD j false=true)→
  Run cx ops f fin L st→RR E tr st a w→wpAny P .any ops Q fuel listed a w
 | 0,L,listed,st,a,w,hL,hsz,hp,hm,hdown,hrun,hR=>by
  have:L=[]:=List.length_eq_zero_iff.1 hL
  subst this
  refine ⟨?_,hQ _ _ (by rw [← (show st=fin from hrun)];exact hR)⟩
  cases hr:Region.ready .any ops listed with
  | nil=>rfl
  | cons i l=>
   obtain ⟨h1,h2,_⟩:=ready_mem (i:=i) (by rw [hr];simp)
   exact absurd ((hm i).2 ⟨h1,h2⟩) (by simp)
 | fuel + 1,L,listed,st,a,w,hL,hsz,hp,hm,hdown,hrun,hR=>by
  have gd :∀k,k < ops.size→listed.getD k true=listed.getD k false:=fun k hk=>by simp [Array.getD,hsz,hk]
  refine ⟨fun hr=>?_,fun i hi=>?_⟩
  ·exfalso
   cases L with
   | nil=>simp at hL
   | cons i l=>
    obtain ⟨h1,h2⟩:=(hm i).1 (by simp)
    have ho:ops[i]?=some ops[i]:=by simp [h1]
    have:i ∈ Region.ready .any ops listed:=mem_ready ho h2 fun j hj=>by
     obtain ⟨hb,_⟩:=drawOK_spec hd ho
     have:=List.all_eq_true.1 hb j hj
     have hji:j < i:=by simpa using this
     cases hx:listed.getD j false with
     | true=>rfl
     | false=>
      have hjL:=(hm j).2 ⟨by omega,by rw [gd j (by omega)];exact hx⟩
      rcases List.mem_cons.1 hjL with e | e
      ·omega
      ·have:=(List.pairwise_cons.1 hp).1 j e
       omega
    rw [hr] at this
    simp at this
  ·obtain ⟨h1,h2,o,ho,h3⟩:=ready_mem hi
   have hiL:=(hm i).2 ⟨h1,h2⟩
   obtain ⟨pre,post,rfl⟩:=List.append_of_mem hiL
   obtain ⟨hp1,hp2,hp3⟩:=List.pairwise_append.1 hp
   have hfree :∀j ∈ pre,Free ops f j i:=by
    intro j hj
    have hji:j < i:=hp3 j hj i (by simp)
    have hnl:¬ listed.getD j false=true:=by
     obtain ⟨q1,q2⟩:=(hm j).1 (by simp [hj])
     rw [gd j q1] at q2
     rw [q2];simp
    have hna:j ∉ ancOf ops i:=by
     intro hja
     obtain ⟨hb,_⟩:=drawOK_spec hd ho
     rcases ancOf_step ho hb hja with e | ⟨q,e1,e2⟩
     ·exact hnl (h3 j e)
     ·have:=List.all_eq_true.1 hb q e1
      have hq:q < i:=by simpa using this
      exact hnl (anc_listed hd (listed:=fun k=>listed.getD k false=true) hdown (q + 1) q (by omega) (by omega) (h3 q e1) j e2)
    refine ⟨fun x y hx hy=>?_,?_⟩
    ·rw [ho] at hy
     cases hy
     exact ((drawOK_spec hd ho).2 j hji).resolve_left hna x hx
    ·exact (hc j i hji h1).resolve_left hna
   obtain ⟨o',v,wr,ho',hs,hrun'⟩:=bubble pre hfree hrun
   rw [ho] at ho'
   cases ho'
   have hstep:stepK cx ops o st fun st'=>Run cx ops f fin (pre ++ post) st':=hs.go st (fun _ _=>rfl) (fun _ _=>rfl) _ hrun'
   have hnext :∀st' a' w',Run cx ops f fin (pre ++ post) st'→RR E tr st' a' w'→wpAny P .any ops Q fuel (listed.setIfInBounds i true) a' w':=by
    intro st' a' w' hr' hR'
    have gs :∀k b,(listed.setIfInBounds i true).getD k b=if k=i then true else listed.getD k b:=by
     intro k b
     by_cases hk:k=i
     ·subst hk;simp [Array.getD,hsz,h1]
     ·have:¬ i=k:=fun e=>hk e.symm
      simp only [hk,if_false,Array.getD,Array.size_setIfInBounds]
      split
      ·rename_i hlt
       exact Array.getElem_setIfInBounds_ne hlt this
      ·rfl
    refine any_sound hT hC hd hc hQ fuel (pre ++ post) (listed.setIfInBounds i true) (by simp at hL ⊢;omega) (by simpa using hsz) ?_ (fun k=>?_) ?_ hr' hR'
    ·exact List.pairwise_append.2 ⟨hp1,(List.pairwise_cons.1 hp2).2,fun x hx y hy=>hp3 x hx y (by simp [hy])⟩
    ·rw [gs]
     have:=hm k
     by_cases hk:k=i
     ·subst hk
      simp only [if_true]
      constructor
      ·intro hh
       rcases List.mem_append.1 hh with hh | hh
       ·exact absurd (hp3 k hh k (by simp)) (by omega)
       ·exact absurd ((List.pairwise_cons.1 hp2).1 k hh) (by omega)
      ·intro hh;simp at hh
     ·simp only [hk,if_false]
      rw [← this]
      simp [hk]
    ·intro j q hq hl p hpq
     rw [gs] at hl ⊢
     split
     ·rfl
     ·by_cases hj:j=i
      ·subst hj
       rw [ho] at hq;cases hq
       exact h3 p hpq
      ·simp only [hj,if_false] at hl
       exact hdown j q hq hl p hpq
   unfold wpOp
   simp only [ho]
   have:=step_sound (Q:=Q) hT hC hstep hR (next:=wpAny P .any ops Q fuel (listed.setIfInBounds i true)) hnext
   split
   ·rename_i hw;rw [if_pos hw] at this;exact .inl this
   ·rename_i hw;rw [if_neg hw] at this;exact this
theorem any_soundT {cx:Cx} (hT:TabOk P cx.T) (hC:CxOK E.wl P cx) {ops:Array Oper} {f:Nat→List Nat×List Nat} {fin:ASt} {Q:Exit→Act→World→Prop} {t:Nat} (ht:t + 1=ops.size) (hanc :∀j,j < t→j ∈ ancOf ops t)
  (hd:drawOK ops=true) (hc :∀j k,j < k→k < t→j ∈ ancOf ops k ∨ ((∀r ∈ (f j).2,r ∉ (f k).1)∧∀r ∈ (f j).1,r ∉ (f k).2))
  (hQ :∀a w,RR E tr fin a w→wpOp P ops Q t (Q .normal) a w) :∀(fuel:Nat) (L:List Nat) (listed:Array Bool) {st:ASt} {a:Act} {w:World},
  L.length=fuel→listed.size=ops.size→L.Pairwise (· < ·)→listed.getD t true=false→(∀k,k ∈ L ↔ k < t∧listed.getD k true=false)→(∀i o,ops[i]?=some o→listed.getD i false=true→∀j ∈ preds o,listed.getD j false=true)→
  Run cx ops f fin L st→RR E tr st a w→wpAny P .any ops Q (fuel + 1) listed a w
 | 0,L,listed,st,a,w,hL,hsz,hp,htl,hm,hdown,hrun,hR=>by
  have:L=[]:=List.length_eq_zero_iff.1 hL
  subst this
  have gd :∀k,k < ops.size→listed.getD k true=listed.getD k false:=fun k hk=>by simp [Array.getD,hsz,hk]
  have hall :∀k,k < t→listed.getD k true=true:=by
   intro k hk
   cases hx:listed.getD k true with
   | true=>rfl
   | false=>exact absurd ((hm k).2 ⟨hk,hx⟩) (by simp)
  have hot:ops[t]?=some (ops[t]'(by omega)):=by simp [show t < ops.size by omega]
  have hpt :∀j ∈ preds (ops[t]'(by omega)),listed.getD j false=true:=by
   intro j hj
   obtain ⟨hb,_⟩:=drawOK_spec hd hot
   have:=List.all_eq_true.1 hb j hj
   have hji:j < t:=by simpa using this
   rw [← gd j (by omega)];exact hall j hji
  have htr:t ∈ Region.ready .any ops listed:=mem_ready hot htl hpt
  refine ⟨fun hr=>?_,fun i hi=>?_⟩
  ·rw [hr] at htr;simp at htr
  ·obtain ⟨h1,h2,_⟩:=ready_mem hi
   have hit:i=t:=by
    refine Nat.le_antisymm (by omega) (Nat.le_of_not_lt fun hlt=>?_)
    rw [hall i hlt] at h2
    simp at h2
   subst hit
   refine wpOp_mono (fun a' w' hq=>⟨?_,hq⟩) (hQ a w (by rw [← (show st=fin from hrun)];exact hR))
   cases hr:Region.ready .any ops (listed.setIfInBounds i true) with
   | nil=>rfl
   | cons k l=>
    exfalso
    obtain ⟨h3,h4,_⟩:=ready_mem (i:=k) (by rw [hr];simp)
    by_cases hk:k=i
    ·subst hk;simp [Array.getD,hsz,h1] at h4
    ·have h5:(listed.setIfInBounds i true).getD k true=listed.getD k true:=by
      have:¬ i=k:=fun e=>hk e.symm
      simp only [Array.getD,Array.size_setIfInBounds]
      split
      ·rename_i hlt
       exact Array.getElem_setIfInBounds_ne hlt this
      ·rfl
     rw [h5,hall k (by omega)] at h4
     simp at h4
 | fuel + 1,L,listed,st,a,w,hL,hsz,hp,htl,hm,hdown,hrun,hR=>by
  have gd :∀k,k < ops.size→listed.getD k true=listed.getD k false:=fun k hk=>by simp [Array.getD,hsz,hk]
  refine ⟨fun hr=>?_,fun i hi=>?_⟩
  ·exfalso
   cases L with
   | nil=>simp at hL
   | cons i l=>
    obtain ⟨h1',h2⟩:=(hm i).1 (by simp)
    have h1:i < ops.size:=by omega
    have ho:ops[i]?=some ops[i]:=by simp [h1]
    have:i ∈ Region.ready .any ops listed:=mem_ready ho h2 fun j hj=>by
     obtain ⟨hb,_⟩:=drawOK_spec hd ho
     have:=List.all_eq_true.1 hb j hj
     have hji:j < i:=by simpa using this
     cases hx:listed.getD j false with
     | true=>rfl
     | false=>
      have hjL:=(hm j).2 ⟨by omega,by rw [gd j (by omega)];exact hx⟩
      rcases List.mem_cons.1 hjL with e | e
      ·omega
      ·have:=(List.pairwise_cons.1 hp).1 j e
       omega
    rw [hr] at this
    simp at this
  ·obtain ⟨h1,h2,o,ho,h3⟩:=ready_mem hi
   have hit:i ≠ t:=by
    intro e
    subst e
    cases L with
    | nil=>simp at hL
    | cons j l=>
     obtain ⟨q1,q2⟩:=(hm j).1 (by simp)
     have hja:=hanc j q1
     obtain ⟨hb,_⟩:=drawOK_spec hd ho
     rw [gd j (by omega)] at q2
     rcases ancOf_step ho hb hja with e | ⟨q,e1,e2⟩
     ·rw [h3 j e] at q2;simp at q2
     ·have:=List.all_eq_true.1 hb q e1
      have hq:q < i:=by simpa using this
      have:=anc_listed hd (listed:=fun k=>listed.getD k false=true) hdown (q + 1) q (by omega) (by omega) (h3 q e1) j e2
      rw [this] at q2;simp at q2
   have hlt:i < t:=by omega
   have hiL:=(hm i).2 ⟨hlt,h2⟩
   obtain ⟨pre,post,rfl⟩:=List.append_of_mem hiL
   obtain ⟨hp1,hp2,hp3⟩:=List.pairwise_append.1 hp
   have hfree :∀j ∈ pre,Free ops f j i:=by
    intro j hj
    have hji:j < i:=hp3 j hj i (by simp)
    have hnl:¬ listed.getD j false=true:=by
     obtain ⟨q1,q2⟩:=(hm j).1 (by simp [hj])
     rw [gd j (by omega)] at q2
     rw [q2];simp
    have hna:j ∉ ancOf ops i:=by
     intro hja
     obtain ⟨hb,_⟩:=drawOK_spec hd ho
     rcases ancOf_step ho hb hja with e | ⟨q,e1,e2⟩
     ·exact hnl (h3 j e)
     ·have:=List.all_eq_true.1 hb q e1
      have hq:q < i:=by simpa using this
      exact hnl (anc_listed hd (listed:=fun k=>listed.getD k false=true) hdown (q + 1) q (by omega) (by omega) (h3 q e1) j e2)
    refine ⟨fun x y hx hy=>?_,?_⟩
    ·rw [ho] at hy
     cases hy
     exact ((drawOK_spec hd ho).2 j hji).resolve_left hna x hx
    ·exact (hc j i hji hlt).resolve_left hna
   obtain ⟨o',v,wr,ho',hs,hrun'⟩:=bubble pre hfree hrun
   rw [ho] at ho'
   cases ho'
   have hstep:stepK cx ops o st fun st'=>Run cx ops f fin (pre ++ post) st':=hs.go st (fun _ _=>rfl) (fun _ _=>rfl) _ hrun'
   have hnext :∀st' a' w',Run cx ops f fin (pre ++ post) st'→RR E tr st' a' w'→wpAny P .any ops Q (fuel + 1) (listed.setIfInBounds i true) a' w':=by
    intro st' a' w' hr' hR'
    have gs :∀k b,(listed.setIfInBounds i true).getD k b=if k=i then true else listed.getD k b:=by
     intro k b
     by_cases hk:k=i
     ·subst hk;simp [Array.getD,hsz,h1]
     ·have:¬ i=k:=fun e=>hk e.symm
      simp only [hk,if_false,Array.getD,Array.size_setIfInBounds]
      split
      ·rename_i hlt
       exact Array.getElem_setIfInBounds_ne hlt this
      ·rfl
    refine any_soundT hT hC ht hanc hd hc hQ fuel (pre ++ post) (listed.setIfInBounds i true) (by simp at hL ⊢;omega) (by simpa using hsz) ?_ (by rw [gs,if_neg (Ne.symm hit)];exact htl) (fun k=>?_) ?_ hr' hR'
    ·exact List.pairwise_append.2 ⟨hp1,(List.pairwise_cons.1 hp2).2,fun x hx y hy=>hp3 x hx y (by simp [hy])⟩
    ·rw [gs]
     have:=hm k
     by_cases hk:k=i
     ·subst hk
      simp only [if_true]
      constructor
      ·intro hh
       rcases List.mem_append.1 hh with hh | hh
       ·exact absurd (hp3 k hh k (by simp)) (by omega)
       ·exact absurd ((List.pairwise_cons.1 hp2).1 k hh) (by omega)
      ·intro hh;simp at hh
     ·simp only [hk,if_false]
      rw [← this]
      simp [hk]
    ·intro j q hq hl p hpq
     rw [gs] at hl ⊢
     split
     ·rfl
     ·by_cases hj:j=i
      ·subst hj
       rw [ho] at hq;cases hq
       exact h3 p hpq
      ·simp only [hj,if_false] at hl
       exact hdown j q hq hl p hpq
   unfold wpOp
   simp only [ho]
   have:=step_sound (Q:=Q) hT hC hstep hR (next:=wpAny P .any ops Q (fuel + 1) (listed.setIfInBounds i true)) hnext
   split
   ·rename_i hw;rw [if_pos hw] at this;exact .inl this
   ·rename_i hw;rw [if_neg hw] at this;exact this
theorem drawOK_sound0 {wl:WL} {cx:Cx} (hT:TabOk P cx.T) (hC:CxOK wl P cx) (hm:P.follows .mixedOrders=true) :∀(E:Env),E.wl=wl→∀(tr:Trk) (id:Nat) (ops:Array Oper) (st:ASt) (a:Act) (w:World) (K:ASt→Prop) (Q:Exit→Act→World→Prop),tr.np=cx.np→
 drawOK ops=true→opsDK cx ops ops.toList [] st (fun evs st'=>confOK ops 0 evs=true∧K st')→RR E tr st a w→(∀st' a' w',K st'→RR E tr st' a' w'→Q .normal a' w')→(Code.region id ops true).wp P Q a w:=by
 intro E hwl tr id ops st a w K Q hnp hd h hR hQ
 subst hwl
 obtain ⟨es,fin,hlen,⟨hconf,hK⟩,hrun⟩:=opsDK_run ops.toList 0 [] (fun k hk=>by simp at hk;simp [hk]) h
 have hrun:=hrun (fun k=>es.getD k default) fun k hk=>by simp [hk]
 simp only [Array.length_toList] at hlen hrun
 have hes:es=(List.range' 0 ops.size).map fun k=>es.getD k default:=by
  apply List.ext_getElem
  ·simp [hlen]
  ·intro k h1 h2;simp [h1]
 rw [List.reverse_nil,List.nil_append,hes] at hconf
 have hspec:=confOK_spec ops.size 0 hconf
 refine wp_region_any hm ?_
 obtain ⟨S,φ,hR1,htr⟩:=hR
 obtain ⟨md,kd⟩:=hR1.mem.drew
 have hR':RR E tr st a w.drew:=⟨S,φ,⟨hR1.sz,fun i hi=>⟨kd.rep (hR1.tm i hi).2 (hR1.tm i hi).1,(hR1.tm i hi).2⟩,hR1.df,md⟩,htr⟩
 refine any_sound hT hC hd (f:=fun k=>es.getD k default) (fun j k h1 h2=>hspec j k (by omega) h1 (by omega)) (fun a w hR=>hQ fin a w hK hR) ops.size (List.range' 0 ops.size) _ (by simp) (by simp) List.pairwise_lt_range' (fun k=>?_) ?_ hrun hR'
 ·simp [Array.getD]
 ·intro i o ho hl
  simp [Array.getD] at hl
theorem initL_get :∀(l:List Oper),(initL l).length=l.length - 1∧∀k (hk:k < (initL l).length),∃hk':k < l.length,(initL l)[k]=l[k]
 | []=>⟨rfl,fun k hk=>by simp [initL] at hk⟩
 | [_]=>⟨rfl,fun k hk=>by simp [initL] at hk⟩
 | o::p::l=>by
  obtain ⟨h1,h2⟩:=initL_get (p::l)
  refine ⟨by simp only [initL,List.length_cons] at *;omega,fun k hk=>?_⟩
  cases k with
  | zero=>exact ⟨by simp,rfl⟩
  | succ k=>
   obtain ⟨q1,q2⟩:=h2 k (by simpa [initL] using hk)
   exact ⟨by simpa using q1,by simpa [initL] using q2⟩
theorem lastK_get {cx:Cx} {ops:Array Oper} {st:ASt} {K:ASt→Prop} :∀{l:List Oper},lastK cx ops st K l→∃o,l[l.length - 1]?=some o∧stepX cx ops o st K
 | [],h=>h.elim
 | [o],h=>⟨o,rfl,h⟩
 | _::p::l,h=>by
  obtain ⟨o,h1,h2⟩:=lastK_get (l:=p::l) h
  exact ⟨o,by simpa using h1,h2⟩
theorem drawOK_sound {wl:WL} {cx:Cx} (hT:TabOk P cx.T) (hC:CxOK wl P cx) (hm:P.follows .mixedOrders=true):DrawOK wl P cx:=by
 intro E hwl tr id ops st a w K Q hnp h hR hQ
 rcases h with ⟨hd,h⟩ | ⟨⟨hd,ht⟩,h⟩
 ·exact drawOK_sound0 hT hC hm E hwl tr id ops st a w K Q hnp hd h hR hQ
 subst hwl
 simp only [tailOK,Bool.and_eq_true,List.all_eq_true,List.mem_range] at ht
 obtain ⟨ht0,hanc⟩:=ht
 have hpos:0 < ops.size:=Nat.le_of_ble_eq_true ht0
 obtain ⟨il,ig⟩:=initL_get ops.toList
 simp only [Array.length_toList] at il
 obtain ⟨es,fin,hlen,⟨hconf,hK⟩,hrun⟩:=opsDK_run (initL ops.toList) 0 [] (fun k hk=>by
  obtain ⟨q1,q2⟩:=ig k hk
  rw [q2]
  simp only [Array.length_toList] at q1
  simp [q1]) h
 have hrun:=hrun (fun k=>es.getD k default) fun k hk=>by simp [hk]
 rw [il] at hlen hrun
 have hes:es=(List.range' 0 (ops.size - 1)).map fun k=>es.getD k default:=by
  apply List.ext_getElem
  ·simp [hlen]
  ·intro k h1 h2;simp [h1]
 rw [List.reverse_nil,List.nil_append,hes] at hconf
 have hspec:=confOK_spec (ops.size - 1) 0 hconf
 obtain ⟨o,ho,hlast⟩:=lastK_get hK
 simp only [Array.length_toList] at ho
 have ho:ops[ops.size - 1]?=some o:=by simpa using ho
 refine wp_region_any hm ?_
 obtain ⟨S,φ,hR1,htr⟩:=hR
 obtain ⟨md,kd⟩:=hR1.mem.drew
 have hR':RR E tr st a w.drew:=⟨S,φ,⟨hR1.sz,fun i hi=>⟨kd.rep (hR1.tm i hi).2 (hR1.tm i hi).1,(hR1.tm i hi).2⟩,hR1.df,md⟩,htr⟩
 have key:=any_soundT (t:=ops.size - 1) (Q:=Q) (fin:=fin) hT hC (by omega) (fun j hj=>by simpa using hanc j hj) hd (f:=fun k=>es.getD k default) (fun j k h1 h2=>hspec j k (by omega) h1 (by omega)) (fun a w hR=>?_) (ops.size - 1) (List.range' 0 (ops.size - 1)) (Array.replicate ops.size false) (by simp) (by simp) List.pairwise_lt_range' (by simp [Array.getD,show ops.size - 1 < ops.size by omega]) (fun k=>?_) (fun i o ho hl=>?_) hrun hR'
 ·rw [show ops.size - 1 + 1=ops.size by omega] at key
  exact key
 ·unfold wpOp
  simp only [ho]
  have:=stepX_sound (Q:=Q) hT hC hnp hlast hR (next:=Q .normal) hQ
  split
  ·rename_i hw;rw [if_pos hw] at this;exact .inl this
  ·rename_i hw;rw [if_neg hw] at this;exact this
 ·rw [List.mem_range'_1]
  constructor
  ·rintro ⟨_,hi⟩
   exact ⟨by omega,by simp [Array.getD,show k < ops.size by omega]⟩
  ·rintro ⟨hi,_⟩
   exact ⟨by omega,by omega⟩
 ·simp [Array.getD] at hl
end
end Go.AX
end
section
namespace Go.AX
def zeroB:D→Value→Bool
 | .val (.int k n),.int k' n'=>decide (k=k') && decide (n=n')
 | .val (.bool b),.bool b'=>b == b'
 | .val (.string s),.string s'=>Nat.beq s.data.toList.length 0 && Nat.beq s'.data.toList.length 0
 | .val (.pointer none),.pointer none=>true
 | .val .nilFunc,.nilFunc=>true
 | .val .nilIface,.nilIface=>true
 | .val (.map none),.map none=>true
 | .nil _,.slice none 0 0=>true
 | _,_=>false
theorem zeroB_ok {d:D} {v:Value} (h:zeroB d v=true):zeroOk d v:=by
 unfold zeroB at h
 split at h
 ·simp only [Bool.and_eq_true,decide_eq_true_eq] at h
  obtain ⟨rfl,rfl⟩:=h
  exact ⟨rfl,rfl⟩
 ·have h:=eq_of_beq h
  subst h
  exact ⟨rfl,rfl⟩
 ·rename_i s s'
  simp only [Bool.and_eq_true,beq_iff,List.length_eq_zero_iff] at h
  have e:s=s':=by
   cases s;cases s'
   congr
   apply Array.toList_inj.1
   rw [h.1,h.2]
  subst e
  exact ⟨rfl,rfl⟩
 all_goals first | exact ⟨rfl,rfl⟩ | rfl | simp at h
def zerosB:List D→List Value→Bool
 | [],[]=>true
 | d::ds,v::vs=>zeroB d v && zerosB ds vs
 | _,_=>false
theorem zerosB_ok :∀{ds:List D} {vs:List Value},zerosB ds vs=true→ds.length=vs.length∧∀j (hj:j < ds.length) v,vs[j]?=some v→zeroOk ds[j] v
 | [],[],_=>⟨rfl,fun j hj=>by simp at hj⟩
 | d::ds,v::vs,h=>by
  simp only [zerosB,Bool.and_eq_true] at h
  obtain ⟨h1,h2⟩:=zerosB_ok h.2
  refine ⟨by simp [h1],fun j hj u hu=>?_⟩
  cases j with
  | zero=>
   simp only [List.getElem?_cons_zero,Option.some.injEq] at hu
   subst hu
   exact zeroB_ok h.1
  | succ j=>exact h2 j (by simpa using hj) u (by simpa using hu)
 | [],_::_,h=>by simp [zerosB] at h
 | _::_,[],h=>by simp [zerosB] at h
def fieldsB (P:Program):List Field→List (Nat×Nat×Nat)→Bool
 | [],[]=>true
 | f::fs,(o,s,t)::l=>Nat.beq f.offset o && Nat.beq f.type t && (match P.info? f.type with
  | some i=>Nat.beq i.size s
  | none => false) && !(f.name == "_") && fieldsB P fs l
 | _,_=>false
theorem fieldsB_ok {P:Program} :∀{F:List Field} {l:List (Nat×Nat×Nat)},fieldsB P F l=true→
  F.map (fun f => (f.offset, (P.info? f.type).map (·.size), f.type)) = l.map (fun x => (x.1, some x.2.1, x.2.2)) ∧ ∀ f ∈ F, f.name ≠ "_"
 | [],[],_=>⟨rfl,fun f hf=>by simp at hf⟩
 | f::fs,(o,s,t)::l,h=>by
  simp only [fieldsB,Bool.and_eq_true,beq_iff] at h
  obtain ⟨⟨⟨⟨h1,h2⟩,h3⟩,h4⟩,h5⟩:=h
  obtain ⟨g1,g2⟩:=fieldsB_ok h5
  refine ⟨?_,fun g hg=>?_⟩
  ·simp only [List.map_cons,g1,List.cons.injEq,Prod.mk.injEq,and_true]
   refine ⟨h1,?_,h2⟩
   split at h3
   ·rename_i i hi
    rw [hi]
    simpa using h3
   ·simp at h3
  ·rcases List.mem_cons.1 hg with rfl | hg
   ·simpa using h4
   ·exact g2 g hg
 | [],_::_,h=>by simp [fieldsB] at h
 | _::_,[],h=>by simp [fieldsB] at h
def kindB (P:Program) (t:Nat) (k:TK):Bool:=match k,P.underlying t with
 | .bool,some .bool=>true
 | .int k,some (.int k')=>decide (k'=k)
 | .str,some .string=>true
 | .ptr,some (.pointer _)=>true
 | .fn,some (.func _ _ _)=>true
 | .slice e,some (.slice e')=>Nat.beq e' e
 | .arr n e,some (.array n' e')=>Nat.beq n' n && Nat.beq e' e
 | .map k e,some (.map k' e')=>Nat.beq k' k && Nat.beq e' e
 | .struct fs,some (.struct F)=>!P.stoodInHeld t && !P.eqGuardType P.depth t && fieldsB P F.toList fs
 | .other,_=>true
 | _,_=>false
theorem kindB_ok {P:Program} {t:Nat} {k:TK} (h:kindB P t k=true):KindOk P t k:=by
 unfold kindB at h
 split at h<;>simp only [KindOk]
 ·assumption
 ·rename_i hu;rw [hu,of_decide_eq_true h]
 ·assumption
 ·exact ⟨_,by assumption⟩
 ·exact ⟨_,_,_,by assumption⟩
 ·rename_i hu;rw [hu,Nat.eq_of_beq_eq_true h]
 ·rename_i hu
  simp only [Bool.and_eq_true,beq_iff] at h
  rw [hu,h.1,h.2]
 ·rename_i hu
  simp only [Bool.and_eq_true,beq_iff] at h
  rw [hu,h.1,h.2]
 ·rename_i fs F hu
  simp only [Bool.and_eq_true,Bool.not_eq_true'] at h
  exact ⟨h.1.1,h.1.2,F,hu,fieldsB_ok h.2⟩
 ·simp at h
def aggB (k:TK) (z:Value):Bool:=match z,k.cls with
 | .agg _,some false=>false
 | .agg _,_=>true
 | _,some true=>false
 | _,_=>true
def tiB (P:Program) (t:Nat) (ti:TI):Bool:=match P.info? t with
 | some i=>(match i.zero with
  | some z=>Nat.beq i.size ti.size && Nat.beq i.bytes ti.bytes && Nat.beq ti.zero.length ti.size && zerosB ti.zero z.cells.toList && kindB P t ti.kind && aggB ti.kind z
  | none=>false)
 | none=>false
theorem tiB_ok {P:Program} {t:Nat} {ti:TI} (h:tiB P t ti=true):TiOk P t ti:=by
 unfold tiB at h
 split at h
 ·rename_i i hi
  split at h
  ·rename_i z hz
   simp only [Bool.and_eq_true,beq_iff] at h
   obtain ⟨⟨⟨⟨⟨h1,h2⟩,h3⟩,h4⟩,h5⟩,h6⟩:=h
   obtain ⟨g1,g2⟩:=zerosB_ok h4
   exact ⟨⟨i,z,hi,h1,h2,hz,by rw [← Array.length_toList,← g1,h3],h3,fun j hj v hv=>g2 j hj v (by simpa using hv)⟩,kindB_ok h5,fun i' z' hi' hz'=>by
    rw [hi] at hi'
    obtain rfl:=Option.some.inj hi'
    rw [hz] at hz'
    obtain rfl:=Option.some.inj hz'
    refine ⟨fun hc=>?_,fun hc cs e=>?_⟩
    ·cases z<;>first | exact ⟨_,rfl⟩ | (simp [aggB,hc] at h6)
    ·subst e;simp [aggB,hc] at h6⟩
  ·simp at h
 ·simp at h
def tabB (P:Program):TT→Bool
 | .tip=>true
 | .node k v l r=>(v.kind.cls.isNone || tiB P k v) && tabB P l && tabB P r
theorem tabB_ok {P:Program} :∀{T:TT},tabB P T=true→TabOk P T
 | .tip,_=>fun t=>.inl rfl
 | .node k v l r,h=>fun t=>by
  simp only [tabB,Bool.and_eq_true,Bool.or_eq_true] at h
  simp only [TT.get]
  cases hb:Nat.beq t k with
  | true=>
   have:=Nat.eq_of_beq_eq_true hb
   subst this
   simp only
   rcases h.1.1 with h | h
   ·exact .inl (by simpa using h)
   ·exact .inr (tiB_ok h)
  | false=>
   simp only
   cases Nat.blt t k with
   | true=>exact tabB_ok h.1.2 t
   | false=>exact tabB_ok h.2 t
end Go.AX
end
section
namespace Go.AX
abbrev mcx (wl:WL) (P:Program) (T:TT) (keep:FuncId→List Bool) (inl:FuncId→Bool) (ex np:Nat):Cx:=⟨T,np,CallsOK wl P,keep,wl.G,inl,InlOK wl P,ex⟩
theorem fn_ok {wl:WL} {P:Program} {T:TT} (hT:TabOk P T) (hm:P.follows .mixedOrders=true) (keep:FuncId→List Bool) (inl:FuncId→Bool) (ex:Nat) {f:FuncId} {fn:Func} {args:List AV} {objs:List OB} {res:AV} {objs':List OB}
  (hf : P.funcs[f]? = some fn) (hn : (fn.name == "runtime.NumGoroutine") = false) (h : funK (mcx wl P T keep inl ex objs.length) fn args objs fun r o => r = res ∧ o = objs') : CallsOK wl P f args objs res objs' :=
 funK_sound (cx:=mcx wl P T keep inl ex objs.length) hT ⟨rfl,fun _ _ _ _ _ h=>h,fun _ _ _ _ h=>h⟩ (drawOK_sound hT ⟨rfl,fun _ _ _ _ _ h=>h,fun _ _ _ _ h=>h⟩ hm) hf (by simpa using hn) h
theorem inl_ok {wl:WL} {P:Program} {T:TT} (hT:TabOk P T) (hm:P.follows .mixedOrders=true) (keep:FuncId→List Bool) (inl:FuncId→Bool) (np:Nat) {f:FuncId} {fn:Func} {args:List AV} {ob:List (Option OB)} {K:AV→List (Option OB)→Prop}
  (hf : P.funcs[f]? = some fn) (hn : (fn.name == "runtime.NumGoroutine") = false) (h : funI (mcx wl P T keep inl 0 np) fn args ob K) : InlOK wl P f args ob K :=
 funI_sound (cx:=mcx wl P T keep inl 0 np) hT ⟨rfl,fun _ _ _ _ _ h=>h,fun _ _ _ _ h=>h⟩ (drawOK_sound hT ⟨rfl,fun _ _ _ _ _ h=>h,fun _ _ _ _ h=>h⟩ hm) hf (by simpa using hn) h
def I64 (x:Int):Prop:=-9223372036854775808 ≤ x∧x ≤ 9223372036854775807
theorem i64_id {a b:Int} (h1:a=b) (h2:I64 b):IntKind.i64.wrap a=b:=by
 subst h1
 exact IntWalk.i64_in a h2
theorem I64.of {x:Int} (h:-9223372036854775808 ≤ x∧x ≤ 9223372036854775807):I64 x:=h
end Go.AX
end
section
namespace Go.AX
open Go.RowKit
def Old (w:World):Sc:=fun b o=>∃v,cellAt w b o=some v
theorem walk_of {P:Program} {f:FuncId} {args:List AV} {res:AV} {wl:WL} (h:CallsOK wl P f args [] res []) (w:World) {gb:Nat→Prop} (hg:wl.gf gb w∧∀b,gb b→b < w.heap.size) (vals:Array Value) (hs:vals.size=args.length)
  (hr :∀i (hi:i < args.length),RepA (Old w) w (fun _=>none) (ofL []) args[i] (vals.getD i undef)∧Closed (ofL []) args[i]) :
  Calls P f vals w fun e w'=>(∃v S φ,e=.returned v∧RepA S w' φ (ofL []) res v)∧Below w.heap.size w w':=by
 have hn :∀r,ofL [] r=none:=fun r=>by simp [ofL]
 refine (h.2 w (Old w) (fun _=>none) gb ⟨hg.1,hg.2,(by rintro b hb ⟨r,c,h1,_⟩;simp at h1),fun b o _ hc=>by
  cases hv:cellAt w b o with
  | none=>exact absurd hv hc
  | some v=>exact ⟨v,hv⟩⟩ vals hs hr (fun _ _=>rfl) ⟨fun r o ho=>by rw [hn] at ho;simp at ho,fun r _ _ _ _ hr=>absurd (hn r) hr,fun r o ho=>by rw [hn] at ho;simp at ho,fun _ _ h=>h,fun _ _ _=>rfl,fun b o hS=>?_,fun _ _ h _ _=>h,fun _ _ _=>rfl,Nat.le_refl _,fun r _ _ hr=>absurd (hn r) hr,⟨rfl,rfl,rfl,.inr (Nat.le_refl _)⟩⟩).mono fun e w' he=>?_
 ·obtain ⟨v,hv⟩:=hS
  refine Nat.lt_of_not_le fun hge=>?_
  simp [cellAt,World.cell?,hge] at hv
 ·obtain ⟨v,rfl,S',φ',m,_,hv,_⟩:=he
  refine ⟨⟨v,S',φ',rfl,hv⟩,m.os.1,m.os.2.2.1,m.os.2.1,m.sz,fun k hk=>m.fr k hk ?_⟩
  rintro ⟨r,c,hr,_⟩
  exact absurd hr (by simp)
theorem walk_true {P:Program} {f:FuncId} {args:List AV} {wl:WL} (h:CallsOK wl P f args [] (.b true) []) (w:World) {gb:Nat→Prop} (hg:wl.gf gb w∧∀b,gb b→b < w.heap.size) (vals:Array Value) (hs:vals.size=args.length)
  (hr :∀i (hi:i < args.length),RepA (Old w) w (fun _=>none) (ofL []) args[i] (vals.getD i undef)∧Closed (ofL []) args[i]) :
  Calls P f vals w fun e w'=>e=.returned (.bool true)∧Below w.heap.size w w':=
 (walk_of h w hg vals hs hr).mono fun e w' ⟨⟨v,S,φ,he,hv⟩,hb⟩=>⟨by rw [he,hv.bool],hb⟩
end Go.AX
end
section
namespace Go.AX
open Go.RowKit Go.Deep Go.ChangeShapes Go.WideShapes
section
variable {H:Type} {enc:TypeId×Value→H} {P:Program} {w:World}
def RepI (w:World) (ds:List D) (cs:List Value):Prop:=
 ds.length=cs.length∧(∀d ∈ ds,d.isAgg=false)∧∀j (hj:j < ds.length) v,cs[j]?=some v→RepD (Old w) w ds[j] v
def Wt (P:Program) (t:Nat) (d:DataW H):Prop:=(d.weights P t).all (· ≤ reachBytes)=true
theorem weightsAll_mem {e:Nat} :∀{l:List (DataW H)} {d:DataW H},d ∈ l→∀n ∈ d.weights P e,n ∈ DataW.weightsAll P e l
 | x::l,d,hd,n,hn=>by
  simp only [DataW.weightsAll,List.mem_append]
  rcases List.mem_cons.1 hd with rfl | hd
  ·exact .inl hn
  ·exact .inr (weightsAll_mem hd n hn)
theorem Wt.slice {t e:Nat} {el sp:List (DataW H)} (ht:P.underlying t=some (.slice e)) (h:Wt P t (.slice el sp)):(el.length + sp.length) * P.bytesOf e ≤ reachBytes∧∀d ∈ el,Wt P e d:=by
 have h:=List.all_eq_true.1 h
 simp only [DataW.weights,ht,List.mem_cons,List.mem_append] at h
 refine ⟨by simpa using h _ (.inl rfl),fun d hd=>List.all_eq_true.2 fun n hn=>h n (.inr (.inl (weightsAll_mem hd n hn)))⟩
theorem Wt.string {t:Nat} {b:List UInt8} (h:Wt (H:=H) P t (.lit (.string b))):b.length ≤ reachBytes:=by
 have h:=List.all_eq_true.1 h
 simp only [DataW.weights] at h
 simpa using h _ (List.mem_singleton.2 rfl)
theorem Wt.agg {t:Nat} {F:Array Field} {ds:List (DataW H)} (ht:P.underlying t=some (.struct F)) (h:Wt P t (.agg ds)) {i:Nat} {f:Field} {d:DataW H} (hf:F[i]?=some f) (hd:ds[i]?=some d):Wt P f.type d:=by
 have h:=List.all_eq_true.1 h
 simp only [DataW.weights,ht] at h
 exact List.all_eq_true.2 fun n hn=>h n (DataW.weights_mem_each (ts:=F.toList.map (·.type)) (j:=i) (by simp [hf]) hd n hn)
def Reads (enc:TypeId×Value→H) (P:Program) (w:World) (t:Nat) {α:Type} (cells:α→List D) (ok:α→Prop):Prop:=
 ∀fuel cs x,DataW.trod enc P w 0 (fun _=>true) true fuel t cs=some x→Wt P t x.1→∃a,ok a∧RepI w (cells a) cs
theorem RepI.one {d:D} {v:Value} (hd:d.isAgg=false) (h:RepD (Old w) w d v):RepI w [d] [v]:=
 ⟨rfl,fun x hx=>by simp only [List.mem_singleton] at hx;rw [hx];exact hd,fun j hj u hu=>by
  have:j=0:=by simpa using hj
  subst this
  simp only [List.getElem?_cons_zero,Option.some.injEq] at hu
  subst hu
  exact h⟩
theorem RepI.append {ds es:List D} {cs ks:List Value} (h:RepI w ds cs) (k:RepI w es ks):RepI w (ds ++ es) (cs ++ ks):=by
 obtain ⟨h1,h2,h3⟩:=h
 obtain ⟨k1,k2,k3⟩:=k
 refine ⟨by simp [h1,k1],fun d hd=>?_,fun j hj v hv=>?_⟩
 ·rcases List.mem_append.1 hd with hd | hd
  ·exact h2 d hd
  ·exact k2 d hd
 ·rw [List.getElem_append]
  split
  ·rename_i hlt
   rw [List.getElem?_append_left (by omega)] at hv
   exact h3 j hlt v hv
  ·rename_i hge
   rw [List.getElem?_append_right (by omega),← h1] at hv
   exact k3 (j - ds.length) (by simp at hj;omega) v hv
theorem Reads.map {t:Nat} {α β:Type} {cells:α→List D} {ok:α→Prop} (h:Reads enc P w t cells ok) {cells':β→List D} {ok':β→Prop} (g:α→β) (hc :∀a,cells' (g a)=cells a) (hk :∀a,ok a→ok' (g a)):Reads enc P w t cells' ok':=by
 intro fuel cs x hx hw
 obtain ⟨a,h1,h2⟩:=h fuel cs x hx hw
 exact ⟨g a,hk a h1,by rw [hc];exact h2⟩
theorem reads_int {t:Nat} {k:IntKind} (ht:P.underlying t=some (.int k)):Reads enc P w t (fun n:Int=>[.val (.int k n)]) (fun n=>(Lit.int k n).wf=true):=by
 intro fuel cs x h _
 obtain ⟨n,rfl,_,hw⟩:=DataW.trod_int ht h
 exact ⟨n,hw,RepI.one rfl (.val _ rfl)⟩
theorem reads_slice {t e sz by':Nat} {α:Type} {el:α→D} {ok:α→Prop} (ht:P.underlying t=some (.slice e)) (hsz:P.cellsOf e=sz) (hpos:0 < sz) (hby:P.bytesOf e=by') (h:Reads enc P w e (fun a=>(el a).cells) ok) :
  Reads enc P w t (fun l:List α=>[.lst sz (l.map el)]) (fun l=>l.length ≤ maxLen∧l.length * by' ≤ reachBytes∧∀a ∈ l,ok a):=by
 intro fuel cs x hx hw
 rcases open_slice ht hx with ⟨rfl,_⟩ | ⟨a,len,cap,m,n,D,Pl,rfl,_,hlc,hm,hmm,rfl,hel⟩
 ·exact ⟨[],⟨by simp,by simp,by simp⟩,RepI.one rfl (.lst0 _ _ _)⟩
 ·obtain ⟨hw1,hw2⟩:=Wt.slice ht hw
  have hw1:len * by' ≤ reachBytes:=by
   refine Nat.le_trans ?_ hw1
   rw [hby]
   exact Nat.mul_le_mul_right _ (by simp)
  have hmm:m=cap:=hmm.trans (if_pos rfl)
  subst hmm
  rw [hsz] at hel
  have one :∀i,i < len→∃q:α×List Value,ok q.1∧RepI w (el q.1).cells q.2∧w.cells? 0 (a.add (i * sz)) sz=some q.2:=by
   intro i hi
   obtain ⟨cs',h1,h2⟩:=hel i (by omega)
   obtain ⟨b,h3,h4⟩:=h n cs' _ h2 (hw2 _ (List.mem_map.2 ⟨i,List.mem_range.2 hi,rfl⟩))
   exact ⟨(b,cs'),h3,h4,h1⟩
  by_cases h0:len=0
  ·subst h0
   exact ⟨[],⟨by simp,by simp,by simp⟩,RepI.one rfl (.lst0 _ _ _)⟩
  ·obtain ⟨q0,_⟩:=one 0 (by omega)
   haveI:Inhabited (α×List Value):=⟨q0⟩
   obtain ⟨f,hf⟩:=choose_lt one
   have hspot:a.spot=none:=by
    obtain ⟨_,_,h3⟩:=hf 0 (by omega)
    obtain ⟨_,hl,hc⟩:=World.cells?_some h3
    have:=hc 0 hpos
    rw [Nat.zero_mul] at this
    have e:(a.add 0).add 0=a:=by simp [Addr.add]
    rw [e] at this
    have hlt:0 < (f 0).2.length:=by omega
    rw [List.getElem?_eq_getElem hlt] at this
    unfold World.cell? at this
    split at this
    ·cases hs:a.spot with
     | none=>rfl
     | some s=>simp [hs] at this
    ·simp at this
   obtain ⟨b,o,sp⟩:=a
   simp only at hspot
   subst hspot
   have hadd :∀i j,((⟨b,o,none⟩:Addr).add i).add j=⟨b,o + i + j,none⟩:=by
    intro i j
    rw [Addr.add_none,Addr.add_none]
   have hcell :∀i j,i < len→j < sz→∃v,(f i).2[j]?=some v∧cellAt w b (o + i * sz + j)=some v:=by
    intro i j hi hj
    obtain ⟨_,_,h3⟩:=hf i hi
    obtain ⟨_,hl,hc⟩:=World.cells?_some h3
    have:=hc j hj
    rw [hadd] at this
    have hlt:j < (f i).2.length:=by omega
    exact ⟨(f i).2[j],List.getElem?_eq_getElem hlt,by rw [List.getElem?_eq_getElem hlt] at this;exact this⟩
   have hlenq :∀i,i < len→(el (f i).1).cells.length=sz:=by
    intro i hi
    obtain ⟨_,h2,h3⟩:=hf i hi
    obtain ⟨_,hl,_⟩:=World.cells?_some h3
    rw [h2.1,hl]
   refine ⟨(List.range len).map fun i=>(f i).1,⟨by simp;omega,by simpa using hw1,fun a ha=>?_⟩,RepI.one rfl ?_⟩
   ·obtain ⟨i,hi,rfl⟩:=List.mem_map.1 ha
    exact (hf i (List.mem_range.1 hi)).1
   ·have hL:(((List.range len).map fun i=>(f i).1).map el).length=len:=by simp
    have:=RepD.lst (S:=Old w) (w:=w) sz (((List.range len).map fun i=>(f i).1).map el) b o m (fun i j=>((f i).2[j]?).getD undef) (by rw [hL];exact Nat.le_trans hlc hm) (by rw [hL];exact hlc) (fun i hi=>?_) (fun i j hi hj=>?_) (fun i hi j hj=>?_) (fun i hi j hj=>?_)
    ·rw [hL] at this
     exact this
    ·rw [hL] at hi
     simpa using hlenq i hi
    ·rw [hL] at hi
     obtain ⟨v,h1,h2⟩:=hcell i j hi hj
     exact ⟨⟨v,h2⟩,by rw [h2,h1];rfl⟩
    ·rw [hL] at hi
     obtain ⟨_,h2,_⟩:=hf i hi
     exact h2.2.1 _ (by simp)
    ·rw [hL] at hi
     obtain ⟨_,h2,_⟩:=hf i hi
     simp only [List.getElem_map,List.getElem_range] at hj ⊢
     have hj':j < sz:=by rw [hlenq i hi] at hj;exact hj
     obtain ⟨v,h1,_⟩:=hcell i j hi hj'
     rw [h1]
     exact h2.2.2 j hj v h1
theorem RepI.val {d:D} {v:Value} (h:RepI w [d] [v]):RepD (Old w) w d v:=h.2.2 0 (by simp) v (by simp)
theorem RepI.agg {ds:List D} {cs:Array Value} (h:RepI w ds cs.toList):RepD (Old w) w (.agg ds) (.agg cs):=by
 obtain ⟨h1,h2,h3⟩:=h
 refine .agg ds cs (fun i=>cs.getD i undef) (by simpa using h1.symm) (fun i hi=>?_) (fun i hi=>h2 _ (by simp)) fun i hi=>h3 i hi _ ?_
 ·have:i < cs.size:=by have:=h1;simp at this;omega
  simp [this]
 ·have:i < cs.size:=by have:=h1;simp at this;omega
  simp [this]
end
end Go.AX
end
section
namespace Go.AX
def joinP {τ ρ:Type} (m:(τ→Option ρ)→Option ρ) (k:τ→Option ρ):Option ρ:=m k
def geti {α:Type} (l:List α) (i:Int):Option α:=if 0 ≤ i∧i < l.length then l[i.toNat]? else none
def seti {α:Type} (l:List α) (i:Int) (x:α):Option (List α):=if 0 ≤ i∧i < l.length then some (l.set i.toNat x) else none
def apnd {α:Type} (b:Nat) (l m:List α):Option (List α):=if (l.length + m.length) * b ≤ 2 ^ 47∧l.length + m.length ≤ 2 ^ 47 then some (l ++ m) else none
def part {α:Type} (l:List α) (a b:Int):Option (List α):=if 0 ≤ a∧a ≤ b∧b ≤ l.length then some ((l.drop a.toNat).take (b.toNat - a.toNat)) else none
def chk (p:Prop) [Decidable p]:Option Unit:=if p then some () else none
abbrev i64w (x:Int):Int:=IntKind.i64.wrap x
def forR {α σ ρ:Type} (done:σ→Option ρ) (body:(σ→Option ρ)→α→Nat→σ→Option ρ):List α→Nat→σ→Option ρ
 | [],_,s=>done s
 | x::t,i,s=>body (forR done body t (i + 1)) x i s
def whileR {σ ρ:Type} (body:(σ→Option ρ)→σ→Option ρ):Nat→σ→Option ρ
 | 0,_=>none
 | n + 1,s=>body (whileR body n) s
def fuel:Nat:=2 ^ 64
abbrev D.u8 (x:UInt8):D:=.val (.int .u8 (x.toNat:Int))
abbrev D.u64 (x:UInt64):D:=.val (.int .u64 (x.toNat:Int))
abbrev D.l {α:Type} (sz:Nat) (f:α→D) (l:List α):D:=.lst sz (l.map f)
theorem bind_inv {α ρ:Type} {x:Option α} {f:α→Option ρ} {r:ρ} (h:x.bind f=some r) :∃a,x=some a∧f a=some r:=by
 cases x with
 | none=>cases h
 | some a=>exact ⟨a,rfl,h⟩
theorem sel_if {b:Bool} {ρ:Type} {X Y:Option ρ} {r:ρ} {A B:Prop} (h1:X=some r→A) (h2:Y=some r→B):(if b=true then X else Y)=some r→selK b A B:=by
 intro h
 cases b
 ·exact h2 h
 ·exact h1 h
theorem sel_t {b:Bool} {A B:Prop} (hb:b=true) (h:A):selK b A B:=by subst hb;exact h
theorem sel_f {b:Bool} {A B:Prop} (hb:b=false) (h:B):selK b A B:=by subst hb;exact h
theorem geti_b {α β:Type} {f:α→β} {l:List α} {i:Int} {v:α} (h:geti l i=some v):0 ≤ i∧i < ((l.map f).length:Int):=by
 unfold geti at h
 split at h
 ·rename_i hb;simpa using hb
 ·cases h
theorem geti_d {α:Type} {f:α→D} {l:List α} {i:Int} {v:α} (h:geti l i=some v):(l.map f).getD i.toNat default=f v:=by
 unfold geti at h
 split at h
 ·rename_i hb;simp [h]
 ·cases h
def bs (l:List UInt8):ByteArray:=⟨l.toArray⟩
theorem seti_z {α:Type} {f:α→D} {l l':List α} {i:Int} {v:α} (h:seti l i v=some l'):(l.map f).set i.toNat (f v)=l'.map f:=by
 unfold seti at h
 split at h
 ·cases h;rw [List.map_set]
 ·cases h
theorem seti_len {α:Type} {l l':List α} {i:Int} {v:α} (h:seti l i v=some l'):l'.length=l.length:=by
 unfold seti at h
 split at h
 ·cases h;simp
 ·cases h
theorem apnd_e {α:Type} {b:Nat} {l m l':List α} (h:apnd b l m=some l'):l'=l ++ m:=by
 unfold apnd at h
 split at h
 ·cases h;rfl
 ·cases h
theorem apnd_b {α:Type} {b:Nat} {l m l':List α} {f g:α→D} (h:apnd b l m=some l'):((l.map f).length + (m.map g).length) * b ≤ 2 ^ 47∧(l.map f).length + (m.map g).length ≤ 2 ^ 47:=by
 unfold apnd at h
 split at h
 ·rename_i hb;simpa using hb
 ·cases h
theorem apnd_b0 {α:Type} {b:Nat} {m l':List α} {g:α→D} (h:apnd b [] m=some l'):(m.map g).length * b ≤ 2 ^ 47∧(m.map g).length ≤ 2 ^ 47:=by
 simpa using apnd_b (f:=g) (g:=g) h
theorem apnd_z {α:Type} {b:Nat} {l m l':List α} {f:α→D} (h:apnd b l m=some l'):l.map f ++ m.map f=l'.map f:=by
 rw [apnd_e h,List.map_append]
theorem part_b {α:Type} {f:α→D} {l l':List α} {a b:Int} (h:part l a b=some l'):0 ≤ a∧a ≤ b∧b ≤ ((l.map f).length:Int):=by
 unfold part at h
 split at h
 ·rename_i hb;simpa using hb
 ·cases h
theorem part_b0 {α:Type} {f:α→D} {l l':List α} {a:Int} (h:part l a l.length=some l'):0 ≤ a∧a ≤ ((l.map f).length:Int)∧((l.map f).length:Int) ≤ ((l.map f).length:Int):=by
 have:=part_b (f:=f) h
 simp at this ⊢
 exact this
theorem part_z {α:Type} {f:α→D} {l l':List α} {a b:Int} (h:part l a b=some l'):((l.map f).drop a.toNat).take (b.toNat - a.toNat)=l'.map f:=by
 unfold part at h
 split at h
 ·cases h;rw [List.map_take,List.map_drop]
 ·cases h
theorem part_z0 {α:Type} {f:α→D} {l l':List α} {a:Int} (h:part l a l.length=some l'):((l.map f).drop a.toNat).take (((l.map f).length:Int).toNat - a.toNat)=l'.map f:=by
 have:=part_z (f:=f) h
 simpa using this
theorem make_b {n c:Int} {b:Nat} {u:Unit} (h:chk (0 ≤ n∧n ≤ c∧c ≤ 1048576)=some u) (hb:b ≤ 65536):0 ≤ n∧n ≤ c∧c ≤ 1048576∧b ≤ 65536:=by
 unfold chk at h
 split at h
 ·rename_i q;exact ⟨q.1,q.2.1,q.2.2,hb⟩
 ·cases h
def mget {K V:Type} [BEq K]:List (K×V)→K→Option V
 | [],_=>none
 | p::l,k=>if k == p.1 then some p.2 else mget l k
def mset {K V:Type} [BEq K]:List (K×V)→K→V→List (K×V)
 | [],k,v=>[(k,v)]
 | p::l,k,v=>if k == p.1 then (k,v)::l else p::mset l k v
def entsD {K V:Type} (ek:K→D) (ev:V→D) (l:List (K×V)):List (D×D):=l.map fun p=>(ek p.1,ev p.2)
theorem mapGet_ok {K V:Type} [BEq K] {tk:TK} {ek:K→D} {ev:V→D} {l:List (K×V)} {k:K} (h :∀a b,keyEq tk (ek a) (ek b)=some (a == b)):mapGet tk (ek k) (entsD ek ev l)=some ((mget l k).map ev):=by
 induction l with
 | nil=>rfl
 | cons p l ih=>
  simp only [entsD,List.map_cons,mapGet,h,mget]
  cases k == p.1
  ·simpa [entsD] using ih
  ·simp
theorem mapSet_ok {K V:Type} [BEq K] {tk:TK} {ek:K→D} {ev:V→D} {l:List (K×V)} {k:K} {v:V} (h :∀a b,keyEq tk (ek a) (ek b)=some (a == b)):mapSet tk (ek k) (ev v) (entsD ek ev l)=some (entsD ek ev (mset l k v)):=by
 induction l with
 | nil=>rfl
 | cons p l ih=>
  simp only [entsD,List.map_cons,mapSet,h,mset]
  cases k == p.1
  ·simp only [entsD] at ih
   simp [ih]
  ·simp
theorem mapGet_none {K V:Type} [BEq K] {tk:TK} {ek:K→D} {ev:V→D} {l:List (K×V)} {k:K} {u:Unit} (h :∀a b,keyEq tk (ek a) (ek b)=some (a == b)) (g:chk ((mget l k).isNone=true)=some u):mapGet tk (ek k) (entsD ek ev l)=some none:=by
 rw [mapGet_ok h]
 unfold chk at g
 split at g
 ·rename_i q
  cases hm:mget l k with
  | none=>rfl
  | some v=>rw [hm] at q;simp at q
 ·simp at g
theorem mget_d {V:Type} {f:V→D} {o:Option V} {z:V} {zD:D} (hz:zD=f z):(o.map f).getD zD=f (o.getD z):=by
 cases o<;>simp [hz]
theorem mget_s {V:Type} {f:V→D} {o:Option V}:(o.map f).isSome=o.isSome:=by
 cases o<;>rfl
theorem mget_dg {V:Type} {f:V→D} {o:Option V} {z v:V} {zD:D} (hz:zD=f z) (g:some (o.getD z)=some v):(o.map f).getD zD=f v:=by
 rw [mget_d hz,Option.some.inj g]
theorem mget_sg {V:Type} {f:V→D} {o:Option V} {b:Bool} (g:some o.isSome=some b):(o.map f).isSome=b:=by
 rw [mget_s,Option.some.inj g]
theorem keyEq_i (a b:Int):keyEq (.int .i64) (D.i a) (D.i b)=some (a == b):=by simp [keyEq]
theorem chk_inv {p:Prop} [Decidable p] {u:Unit} (h:chk p=some u):p:=by
 unfold chk at h
 split at h
 ·assumption
 ·cases h
theorem cut_join {τ ρ:Type} {np:Nat} {X:(ASt→Prop)→Prop} {K:ASt→Prop} {m:(τ→Option ρ)→Option ρ} {k:τ→Option ρ} {r:ρ} (St:τ→ASt)
  (h1 :∀k':τ→Option ρ,m k'=some r→X (fun t=>∃s,Weak np t s∧∃v,k' v=some r∧s=St v)) (h2 :∀v,k v=some r→K (St v)):joinP m k=some r→CutP np X K:=
 fun h=>.cut (fun s=>∃v,k v=some r∧s=St v) (h1 k h) fun _ ⟨v,hv,hs⟩=>hs ▸ h2 v hv
theorem view_b {α:Type} {l:List α} {a b:Int} {u:Unit} {f:α→D} (h:chk (0 ≤ a∧a ≤ b∧b ≤ (l.length:Int))=some u):0 ≤ a∧a ≤ b∧b ≤ ((l.map f).length:Int):=by
 rw [List.length_map];exact chk_inv h
theorem view_b0 {α:Type} {l:List α} {a:Int} {u:Unit} {f:α→D} (h:chk (0 ≤ a∧a ≤ (l.length:Int)∧(l.length:Int) ≤ (l.length:Int))=some u):0 ≤ a∧a ≤ ((l.map f).length:Int)∧((l.map f).length:Int) ≤ ((l.map f).length:Int):=by
 rw [List.length_map];exact chk_inv h
theorem view_z {α:Type} {l:List α} {a n:Nat} {f:α→D}:((l.map f).drop a).take n=List.map f ((l.drop a).take n):=by simp
theorem view_i {α:Type} {l:List α} {a n:Nat} {i:Int} {v:α} (h:geti ((l.drop a).take n) i=some v):0 ≤ i∧i < (n:Int):=by
 unfold geti at h
 split at h
 ·rename_i hq
  have:((l.drop a).take n).length ≤ n:=List.length_take_le _ _
  omega
 ·simp at h
theorem view_d {α:Type} {l:List α} {a n:Nat} {i:Int} {v:α} {f:α→D} (h:geti ((l.drop a).take n) i=some v):(l.map f).getD (a + i.toNat) default=f v:=by
 unfold geti at h
 split at h
 ·rename_i hq
  rw [List.getElem?_take,if_pos (by have:((l.drop a).take n).length ≤ n:=List.length_take_le _ _;omega),List.getElem?_drop] at h
  simp [List.getD_eq_getElem?_getD,h]
 ·simp at h
theorem view_w {α:Type} {f:α→D} {l:List α} {a n:Nat}:((l.map f).drop a).take n=((l.drop a).take n).map f:=by simp
theorem move_b {α:Type} {l v:List α} {a b:Int} {f:α→D} (h:part l a b=some v):0 ≤ a∧a ≤ b∧b ≤ b∧b ≤ ((l.map f).length:Int):=by
 have:=part_b (f:=f) h
 exact ⟨this.1,this.2.1,Int.le_refl _,this.2.2⟩
theorem move_b0 {α:Type} {l v:List α} {a:Int} {f:α→D} (h:part l a l.length=some v):0 ≤ a∧a ≤ ((l.map f).length:Int)∧((l.map f).length:Int) ≤ ((l.map f).length:Int)∧((l.map f).length:Int) ≤ ((l.map f).length:Int):=by
 have:=part_b0 (f:=f) h
 exact ⟨this.1,this.2.1,Int.le_refl _,Int.le_refl _⟩
theorem clear_z {α:Type} {l:List α} {a n:Nat} {z:α} {f:α→D}:(l.map f).take a ++ List.replicate n (f z) ++ (l.map f).drop (a + n)=List.map f (l.take a ++ List.replicate n z ++ l.drop (a + n)):=by simp
def cw (s s':ASt):List AV→List D→Prop
 | [],[]=>True
 | a::l,y::l'=>(y.isAgg=false∧AvW s s' a (.d y))∧cw s s' l l'
 | _,_=>False
theorem cw_len {s s':ASt} :∀{cs:List AV} {ys:List D},cw s s' cs ys→ys.length=cs.length
 | [],[],_=>rfl
 | _::_,_::_,h=>by simp [cw_len h.2]
theorem cw_get {s s':ASt} :∀{cs:List AV} {ys:List D},cw s s' cs ys→∀i (hi:i < cs.length) (hi':i < ys.length),ys[i].isAgg=false∧AvW s s' cs[i] (.d ys[i])
 | [],[],_,i,hi,_=>by simp at hi
 | _::_,_::_,h,0,_,_=>h.1
 | _::_,_::_,h,i + 1,hi,hi'=>cw_get h.2 i (by simpa using hi) (by simpa using hi')
theorem _root_.Go.AX.AvW.box {s s':ASt} (r:Nat) (cs:List AV) (ys:List D) (sz:Nat) (h:s.ob.getD r none=some (.box cs)) (h':s'.ob.getD r none=none) (hsz:sz=cs.length) (hp:0 < cs.length) (hc:cw s s' cs ys):AvW s s' (.own r 1) (.d (.lst sz [.agg ys])):=
 .lstB r cs ys sz h h' hsz (cw_len hc) hp (fun i hi hi'=>(cw_get hc i hi hi').2) fun i hi=>(cw_get hc i (by rw [← cw_len hc];exact hi) hi).1
def aw (s s':ASt):List AV→List AV→Prop
 | [],[]=>True
 | a::l,y::l'=>AvW s s' a y∧aw s s' l l'
 | _,_=>False
def ones:List AV→Bool
 | []=>true
 | a::l=>a.one && ones l
def dw (s s':ASt):List D→List AV→Prop
 | [],[]=>True
 | a::l,y::l'=>AvW s s' (.d a) y∧dw s s' l l'
 | _,_=>False
theorem aw_get {s s':ASt} :∀{cs cs':List AV},aw s s' cs cs'→cs.length=cs'.length∧∀i (hi:i < cs.length) (hi':i < cs'.length),AvW s s' cs[i] cs'[i]
 | [],[],_=>⟨rfl,fun i hi=>by simp at hi⟩
 | _::_,_::_,h=>⟨by simp [(aw_get h.2).1],fun i hi hi'=>match i,hi,hi' with
  | 0,_,_=>h.1
  | i + 1,hi,hi'=>(aw_get h.2).2 i (by simpa using hi) (by simpa using hi')⟩
theorem dw_get {s s':ASt} :∀{cs:List D} {cs':List AV},dw s s' cs cs'→cs.length=cs'.length∧∀i (hi:i < cs.length) (hi':i < cs'.length),AvW s s' (.d cs[i]) cs'[i]
 | [],[],_=>⟨rfl,fun i hi=>by simp at hi⟩
 | _::_,_::_,h=>⟨by simp [(dw_get h.2).1],fun i hi hi'=>match i,hi,hi' with
  | 0,_,_=>h.1
  | i + 1,hi,hi'=>(dw_get h.2).2 i (by simpa using hi) (by simpa using hi')⟩
theorem ones_get :∀{cs:List AV},ones cs=true→∀i (hi:i < cs.length),cs[i].one=true
 | _::_,h,0,_=>by simp only [ones,Bool.and_eq_true] at h;exact h.1
 | _::_,h,i + 1,hi=>by simp only [ones,Bool.and_eq_true] at h;exact ones_get h.2 i (by simpa using hi)
theorem _root_.Go.AX.AvW.tupL {s s':ASt} {cs cs':List AV} (h:aw s s' cs cs'):AvW s s' (.tup cs) (.tup cs'):=.tup cs cs' (aw_get h).1 (aw_get h).2
theorem _root_.Go.AX.AvW.aggL {s s':ASt} {cs cs':List AV} (h1:ones cs'=true) (h:aw s s' cs cs'):AvW s s' (.agg cs) (.agg cs'):=.agg cs cs' (aw_get h).1 (aw_get h).2 (ones_get h1)
theorem _root_.Go.AX.AvW.daggL {s s':ASt} {cs:List D} {cs':List AV} (h1:ones cs'=true) (h:dw s s' cs cs'):AvW s s' (.d (.agg cs)) (.agg cs'):=.dagg cs cs' (dw_get h).1 (dw_get h).2 (ones_get h1)
theorem _root_.Go.AX.AvW.aggDL {s s':ASt} {cs:List AV} {ys:List D} (h:cw s s' cs ys):AvW s s' (.agg cs) (.d (.agg ys)):=.aggD cs ys (cw_len h).symm (fun i hi hi'=>(cw_get h i hi hi').2) fun i hi=>(cw_get h i (by rw [← cw_len h];exact hi) hi).1
theorem cut_b {α:Type} {g:α→D} {b n:Nat} {l ys r:List α} (h:apnd b (List.take n l) ys=some r) (hn:n ≤ l.length):(n + (List.map g ys).length) * b ≤ 2 ^ 47∧n + (List.map g ys).length ≤ 2 ^ 47:=by
 have:=apnd_b (f:=g) (g:=g) h
 simp only [List.length_map,List.length_take,Nat.min_eq_left hn] at this ⊢
 exact this
theorem cut_z {α:Type} {f:α→D} {b n:Nat} {l ys r:List α} (h:apnd b (List.take n l) ys=some r):List.take n (List.map f l) ++ List.map f ys=List.map f r:=by
 have:=apnd_z (f:=f) h
 rw [← this,List.map_take]
theorem gget_nil {x:Int}:mapGet (.int .i64) (D.i x) []=some none:=rfl
theorem gget_hit {x k:Int} {v:D} {l:List (D×D)} (h:(x == k)=true):mapGet (.int .i64) (D.i x) ((D.i k,v)::l)=some (some v):=by
 have e:keyEq (.int .i64) (D.i x) (D.i k)=some true:=by simp [keyEq,D.i,h]
 simp only [mapGet,e]
theorem gget_miss {x k:Int} {v:D} {l:List (D×D)} {q:Option (Option D)} (h:¬ (x == k)=true) (hq:mapGet (.int .i64) (D.i x) l=q):mapGet (.int .i64) (D.i x) ((D.i k,v)::l)=q:=by
 have h:(x == k)=false:=by simpa using h
 have e:keyEq (.int .i64) (D.i x) (D.i k)=some false:=by simp [keyEq,D.i,h]
 simp only [mapGet,e]
 exact hq
theorem ite_t {c:Prop} [Decidable c] {α:Type} {a b r:α} (g:c) (h:(if c then a else b)=r):a=r:=by rwa [if_pos g] at h
theorem ite_f {c:Prop} [Decidable c] {α:Type} {a b r:α} (g:¬ c) (h:(if c then a else b)=r):b=r:=by rwa [if_neg g] at h
theorem geti_lt {α:Type} {f:α→D} {l:List α} {i:Int} {v:α} (h:geti l i=some v):Int.toNat i < (List.map f l).length:=by
 have:=geti_b (f:=f) h
 omega
theorem join_end {τ ρ:Type} {np:Nat} {t:ASt} {St:τ→ASt} {k:τ→Option ρ} {r:ρ} {v:τ} (hw:Weak np t (St v)) (h:k v=some r) :∃s,Weak np t s∧∃v,k v=some r∧s=St v:=
 ⟨_,hw,v,h,rfl⟩
theorem loop_for {np:Nat} {body:(AE→ASt→Prop)→ASt→Prop} {K:AE→ASt→Prop} {st:ASt} {α σ ρ:Type} {done:σ→Option ρ} {bd:(σ→Option ρ)→α→Nat→σ→Option ρ} {l:List α} {s0:σ} {r:ρ}
  (slot sz:Nat) (enc:α→D) (hs:st.tm.getD slot .dead=.d (.lst sz (l.map enc))) (St:Nat→σ→ASt) (hw:Weak np st (St 0 s0))
  (hend :∀(s:σ) (K':ASt→Prop),done s=some r→body (onL K K') (St l.length s))
  (hstep :∀(next:σ→Option ρ) (i:Nat) (x:α) (s:σ) (K':ASt→Prop),i < l.length→(l.map enc).getD i default=enc x→IntKind.i64.wrap ((i:Int) + 1)=((i + 1:Nat):Int)→bd next x i s=some r→
   (∀t v,Weak np t (St (i + 1) v)→next v=some r→K' t)→body (onL K K') (St i s)):forR done bd l 0 s0=some r→LoopP np body K st:=by
 intro h
 refine .mk fun hb _=>?_
 have hl:l.length ≤ 9223372036854775807:=by simpa using hb slot sz _ hs
 refine ⟨fun s n=>∃(i:Nat) (v:σ),n=l.length - i∧i ≤ l.length∧forR done bd (l.drop i) i v=some r∧s=St i v,⟨St 0 s0,l.length,hw,0,s0,by simp,by simp,by simpa using h,rfl⟩,?_⟩
 rintro _ n ⟨i,v,hn,hi,hf,rfl⟩
 by_cases he:i=l.length
 ·subst he
  simp only [List.drop_length,forR] at hf
  exact hend v _ hf
 ·have hlt:i < l.length:=by omega
  rw [List.drop_eq_getElem_cons hlt] at hf
  simp only [forR] at hf
  exact hstep _ i l[i] v _ hlt (by simp [hlt]) (i64_id (by omega) ⟨by omega,by omega⟩) hf
   fun t v' hw' hn'=>⟨_,l.length - (i + 1),by omega,hw',i + 1,v',rfl,by omega,hn',rfl⟩
theorem loop_own {np:Nat} {body:(AE→ASt→Prop)→ASt→Prop} {K:AE→ASt→Prop} {st:ASt} {α σ ρ:Type} {done:σ→Option ρ} {bd:(σ→Option ρ)→α→Nat→σ→Option ρ} {l:List α} {s0:σ} {r:ρ}
  (slot e sz:Nat) (fz:FZ) (enc:α→D) (hs:st.ob.getD slot none=some (.row e sz (l.map enc) fz)) (St:Nat→σ→ASt) (hw:Weak np st (St 0 s0))
  (hend :∀(s:σ) (K':ASt→Prop),done s=some r→body (onL K K') (St l.length s))
  (hstep :∀(next:σ→Option ρ) (i:Nat) (x:α) (s:σ) (K':ASt→Prop),i < l.length→(l.map enc).getD i default=enc x→IntKind.i64.wrap ((i:Int) + 1)=((i + 1:Nat):Int)→bd next x i s=some r→
   (∀t v,Weak np t (St (i + 1) v)→next v=some r→K' t)→body (onL K K') (St i s)):forR done bd l 0 s0=some r→LoopP np body K st:=by
 intro h
 refine .mk fun _ hb=>?_
 have hl:l.length ≤ 9223372036854775807:=by simpa using hb slot _ _ _ _ hs
 refine ⟨fun s n=>∃(i:Nat) (v:σ),n=l.length - i∧i ≤ l.length∧forR done bd (l.drop i) i v=some r∧s=St i v,⟨St 0 s0,l.length,hw,0,s0,by simp,by simp,by simpa using h,rfl⟩,?_⟩
 rintro _ n ⟨i,v,hn,hi,hf,rfl⟩
 by_cases he:i=l.length
 ·subst he
  simp only [List.drop_length,forR] at hf
  exact hend v _ hf
 ·have hlt:i < l.length:=by omega
  rw [List.drop_eq_getElem_cons hlt] at hf
  simp only [forR] at hf
  exact hstep _ i l[i] v _ hlt (by simp [hlt]) (i64_id (by omega) ⟨by omega,by omega⟩) hf
   fun t v' hw' hn'=>⟨_,l.length - (i + 1),by omega,hw',i + 1,v',rfl,by omega,hn',rfl⟩
theorem lt_t {α:Type} {l:List α} {i:Nat} (h:i < l.length):decide ((i:Int) < (l.length:Int))=true:=by simpa using h
theorem lt_f {α:Type} {l:List α}:decide ((l.length:Int) < (l.length:Int))=false:=by simp
theorem idx_b {α β:Type} {f:α→β} {l:List α} {i:Nat} (h:i < l.length):0 ≤ (i:Int)∧(i:Int) < ((l.map f).length:Int):=⟨by omega,by simpa using h⟩
theorem loop_while {np:Nat} {body:(AE→ASt→Prop)→ASt→Prop} {K:AE→ASt→Prop} {st:ASt} {σ ρ:Type} {bd:(σ→Option ρ)→σ→Option ρ} {n:Nat} {s0:σ} {r:ρ}
  (St:σ→ASt) (hw:Weak np st (St s0))
  (hstep :∀(next:σ→Option ρ) (s:σ) (K':ASt→Prop),bd next s=some r→(∀t v,Weak np t (St v)→next v=some r→K' t)→body (onL K K') (St s)):whileR bd n s0=some r→LoopP np body K st:=by
 intro h
 refine .mk fun _ _=>⟨fun s n=>∃v,whileR bd n v=some r∧s=St v,⟨St s0,n,hw,s0,h,rfl⟩,?_⟩
 rintro _ m ⟨v,hf,rfl⟩
 cases m with
 | zero=>cases hf
 | succ m=>exact hstep _ v _ hf fun t v' hw' hn'=>⟨_,m,Nat.lt_succ_self m,hw',v',hn',rfl⟩
def maskOf (ps:List Nat) (acc:List Nat):Nat:=ps.foldl (fun m j=>m ||| 2 ^ j ||| acc.getD (acc.length - 1 - j) 0) 0
def ancB:List Oper→List Nat→List Nat
 | [],acc=>acc
 | o::l,acc=>ancB l (maskOf (preds o) acc::acc)
def pairsB (ops:Array Oper) (o:Oper) (m:Nat):List Oper→Bool
 | []=>true
 | q::prev=>(m.testBit prev.length || q.apart ops o) && pairsB ops o m prev
def drawB.go (ops:Array Oper):List Oper→List Oper→List Nat→Bool
 | [],_,_=>true
 | o::l,prev,masks=>(preds o).all (fun j=>Nat.blt j prev.length) && (match o.op with | .select _ _=>false | _=>true) && pairsB ops o (maskOf (preds o) masks) prev &&
   drawB.go ops l (o::prev) (maskOf (preds o) masks::masks)
def drawB (ops:Array Oper):Bool:=drawB.go ops ops.toList [] []
theorem ancs_append :∀(a b:List Oper) (acc:List (List Nat)),ancs (a ++ b) acc=ancs b (ancs a acc)
 | [],_,_=>rfl
 | o::a,b,acc=>ancs_append a b _
theorem ancs_suffix :∀(l:List Oper) (acc:List (List Nat)),∃p,ancs l acc=p ++ acc∧p.length=l.length
 | [],acc=>⟨[],rfl,rfl⟩
 | o::l,acc=>by
  obtain ⟨p,h1,h2⟩:=ancs_suffix l (((preds o).flatMap fun j=>j::acc.getD (acc.length - 1 - j) [])::acc)
  exact ⟨p ++ [(preds o).flatMap fun j=>j::acc.getD (acc.length - 1 - j) []],by rw [ancs,h1];simp,by simp [h2]⟩
def MaskR (masks:List Nat) (acc:List (List Nat)):Prop:=masks.length=acc.length∧∀k j,(masks.getD k 0).testBit j=true→j ∈ acc.getD k []
theorem maskOf_mem {masks:List Nat} {acc:List (List Nat)} (h:MaskR masks acc) (ps:List Nat) (j:Nat) (hj:(maskOf ps masks).testBit j=true):j ∈ ps.flatMap fun j=>j::acc.getD (acc.length - 1 - j) []:=by
 have key :∀(ps:List Nat) (m:Nat),(ps.foldl (fun m j=>m ||| 2 ^ j ||| masks.getD (masks.length - 1 - j) 0) m).testBit j=true→
   m.testBit j=true ∨ j ∈ ps.flatMap fun j=>j::acc.getD (acc.length - 1 - j) []:=by
  intro ps
  induction ps with
  | nil=>intro m h;exact .inl h
  | cons p ps ih=>
   intro m hm
   simp only [List.foldl_cons] at hm
   rcases ih _ hm with g | g
   ·simp only [Nat.testBit_or,Bool.or_eq_true,Nat.testBit_two_pow,decide_eq_true_eq] at g
    rcases g with (g | g) | g
    ·exact .inl g
    ·subst g;exact .inr (by simp)
    ·rw [h.1] at g
     have:=h.2 _ _ g
     exact .inr (by simp only [List.flatMap_cons,List.mem_append,List.mem_cons];exact .inl (.inr this))
   ·exact .inr (by simp only [List.flatMap_cons,List.mem_append];exact .inr g)
 rcases key ps 0 hj with g | g
 ·simp at g
 ·exact g
theorem MaskR.cons {masks:List Nat} {acc:List (List Nat)} (h:MaskR masks acc) (ps:List Nat):MaskR (maskOf ps masks::masks) ((ps.flatMap fun j=>j::acc.getD (acc.length - 1 - j) [])::acc):=by
 refine ⟨by simp [h.1],fun k j hk=>?_⟩
 cases k with
 | zero=>exact maskOf_mem h ps j hk
 | succ k=>exact h.2 k j hk
theorem ancB_R :∀(l:List Oper) {masks:List Nat} {acc:List (List Nat)},MaskR masks acc→MaskR (ancB l masks) (ancs l acc)
 | [],_,_,h=>h
 | o::l,_,_,h=>ancB_R l (h.cons (preds o))
theorem pairsB_ok {ops:Array Oper} {o:Oper} {m:Nat} :∀{prev:List Oper},pairsB ops o m prev=true→∀j q,j < prev.length→prev.reverse[j]?=some q→m.testBit j=true ∨ q.apart ops o=true
 | [],_,j,q,hj,_=>by simp at hj
 | p::prev,h,j,q,hj,hq=>by
  simp only [pairsB,Bool.and_eq_true,Bool.or_eq_true] at h
  simp only [List.reverse_cons] at hq
  by_cases he:j=prev.length
  ·subst he
   rw [List.getElem?_append_right (by simp)] at hq
   simp at hq
   subst hq
   exact h.1
  ·have hlt:j < prev.length:=by simp at hj;omega
   rw [List.getElem?_append_left (by simpa using hlt)] at hq
   exact pairsB_ok h.2 j q hlt hq
theorem drawGo_ok {ops:Array Oper} :∀(l prev:List Oper) (masks:List Nat),prev.reverse ++ l=ops.toList→MaskR masks (ancs prev.reverse [])→drawB.go ops l prev masks=true→
  ∀i o,prev.length ≤ i→ops[i]?=some o→((preds o).all (fun j=>Nat.blt j i) && (match o.op with | .select _ _=>false | _=>true) &&
   (List.range i).all fun j=>(ancOf ops i).contains j || (match ops[j]? with
    | none=>false
    | some q=>q.apart ops o))=true
 | [],prev,masks,hl,_,_,i,o,hi,ho=>by
  have:ops.toList.length=prev.length:=by rw [← hl];simp
  simp only [Array.length_toList] at this
  have:=(Array.getElem?_eq_some_iff.1 ho).1
  omega
 | q::l,prev,masks,hl,hR,h,i,o,hi,ho=>by
  simp only [drawB.go,Bool.and_eq_true] at h
  obtain ⟨⟨⟨h1,h2⟩,h3⟩,h4⟩:=h
  by_cases he:i=prev.length
  ·subst he
   have ho':ops.toList[prev.length]?=some o:=by simpa using ho
   rw [← hl,List.getElem?_append_right (by simp)] at ho'
   simp at ho'
   subst ho'
   have ha:ancOf ops prev.length=(preds q).flatMap fun j=>j::(ancs prev.reverse []).getD ((ancs prev.reverse []).length - 1 - j) []:=by
    unfold ancOf
    rw [← hl,ancs_append,ancs]
    obtain ⟨p,hp,hpl⟩:=ancs_suffix l (((preds q).flatMap fun j=>j::(ancs prev.reverse []).getD ((ancs prev.reverse []).length - 1 - j) [])::ancs prev.reverse [])
    have hs:ops.size - 1 - prev.length=p.length:=by
     have:ops.toList.length=prev.length + (l.length + 1):=by rw [← hl];simp
     simp only [Array.length_toList] at this
     omega
    rw [hp,hs]
    simp
   simp only [Bool.and_eq_true]
   refine ⟨⟨h1,h2⟩,?_⟩
   rw [List.all_eq_true]
   intro j hj
   have hj:=List.mem_range.1 hj
   have hjs :∃p,ops[j]?=some p∧prev.reverse[j]?=some p:=by
    have hlt:j < prev.reverse.length:=by simpa using hj
    refine ⟨prev.reverse[j],?_,List.getElem?_eq_getElem hlt⟩
    have:ops.toList[j]?=some prev.reverse[j]:=by rw [← hl,List.getElem?_append_left hlt,List.getElem?_eq_getElem hlt]
    simpa using this
   obtain ⟨p,hp1,hp2⟩:=hjs
   rw [Bool.or_eq_true]
   rcases pairsB_ok h3 j p hj hp2 with g | g
   ·left
    rw [ha]
    simpa using maskOf_mem hR (preds q) j g
   ·right
    rw [hp1]
    exact g
  ·refine drawGo_ok l (q::prev) _ (by simpa using hl) ?_ h4 i o (by simp;omega) ho
   rw [List.reverse_cons,ancs_append]
   exact hR.cons (preds q)
theorem drawB_ok {ops:Array Oper} (h:drawB ops=true):drawOK ops=true:=by
 unfold drawOK
 rw [List.all_eq_true]
 intro i hi
 have hi:=List.mem_range.1 hi
 have:=drawGo_ok ops.toList [] [] (by simp) ⟨rfl,fun k j hk=>by simp at hk⟩ h i ops[i] (by simp) (by simp [hi])
 simp only [hi,getElem?_pos]
 exact this
def confB.conf (M:List Nat) (n i:Nat) (fp wr:List Nat):Nat→List (List Nat×List Nat)→Bool
 | _,[]=>true
 | j,(fp',wr')::l=>((M.getD (n - 1 - j) 0).testBit i || ((wr.all fun r=>!fp'.contains r) && fp.all fun r=>!wr'.contains r)) && confB.conf M n i fp wr (j + 1) l
def confB.go (M:List Nat) (n:Nat):Nat→List (List Nat×List Nat)→Bool
 | _,[]=>true
 | i,(fp,wr)::l=>confB.conf M n i fp wr (i + 1) l && confB.go M n (i + 1) l
def confB (ops:Array Oper) (evs:List (List Nat×List Nat)):Bool:=confB.go (ancB ops.toList []) ops.size 0 evs
theorem confB_ok {ops:Array Oper} {evs:List (List Nat×List Nat)} (h:confB ops evs=true):confOK ops 0 evs=true:=by
 have hR:=ancB_R ops.toList (masks:=[]) (acc:=[]) ⟨rfl,fun k j hk=>by simp at hk⟩
 have c :∀(l:List (List Nat×List Nat)) (i:Nat) (fp wr:List Nat) (j:Nat),confB.conf (ancB ops.toList []) ops.size i fp wr j l=true→confOK.conf ops i fp wr j l=true:=by
  intro l
  induction l with
  | nil=>intro i fp wr j _;rfl
  | cons x l ih=>
   intro i fp wr j hc
   obtain ⟨fp',wr'⟩:=x
   simp only [confB.conf,Bool.and_eq_true] at hc
   simp only [confOK.conf,Bool.and_eq_true]
   refine ⟨?_,ih _ _ _ _ hc.2⟩
   have hc1:=hc.1
   rw [Bool.or_eq_true] at hc1 ⊢
   rcases hc1 with g | g
   ·exact .inl (by simpa [ancOf] using hR.2 _ _ g)
   ·exact .inr g
 have g :∀(l:List (List Nat×List Nat)) (i:Nat),confB.go (ancB ops.toList []) ops.size i l=true→confOK ops i l=true:=by
  intro l
  induction l with
  | nil=>intro i _;rfl
  | cons x l ih=>
   intro i hc
   obtain ⟨fp,wr⟩:=x
   simp only [confB.go,Bool.and_eq_true] at hc
   simp only [confOK,Bool.and_eq_true]
   exact ⟨c _ _ _ _ _ hc.1,ih _ hc.2⟩
 exact g _ _ h
theorem dOB {ops:Array Oper} {K:Prop} (h:drawB ops=true) (k:K):drawOK ops=true∧K:=⟨drawB_ok h,k⟩
theorem cOB {ops:Array Oper} {e:List (List Nat×List Nat)} {K:Prop} (h:confB ops e=true) (k:K):confOK ops 0 e=true∧K:=⟨confB_ok h,k⟩
theorem i64_of_u8 (x:UInt8):IntKind.i64.wrap (x.toNat:Int)=(x.toNat:Int):=by
 have:=x.toNat_lt
 exact i64_id rfl ⟨by omega,by omega⟩
def toU8 (x:Int):UInt8:=UInt8.ofNat (x % 256).toNat
def toU64 (x:Int):UInt64:=UInt64.ofNat (x % 18446744073709551616).toNat
theorem u8_wrap (x:Int):IntKind.u8.wrap x=((toU8 x).toNat:Int):=by
 have e:(2 ^ IntKind.u8.bits:Int)=256:=by decide
 simp only [IntKind.wrap,IntKind.signed,e,toU8,UInt8.toNat_ofNat']
 simp
 omega
theorem u64_wrap (x:Int):IntKind.u64.wrap x=((toU64 x).toNat:Int):=by
 have e:(2 ^ IntKind.u64.bits:Int)=18446744073709551616:=by decide
 simp only [IntKind.wrap,IntKind.signed,e,toU64,UInt64.toNat_ofNat']
 simp
 omega
theorem toU64_toNat {n:Int} (h:0 ≤ n∧n < 18446744073709551616):((toU64 n).toNat:Int)=n:=by
 simp only [toU64,UInt64.toNat_ofNat'];simp;omega
theorem fdiv_range {n m:Nat} (s:Nat) (h:n < m):0 ≤ (n:Int).fdiv (2 ^ s)∧(n:Int).fdiv (2 ^ s) < m:=by
 have e:(2 ^ s:Int)=((2 ^ s:Nat):Int):=by simp
 rw [e,Int.fdiv_eq_ediv_of_nonneg _ (Int.natCast_nonneg _),← Int.natCast_ediv]
 have:=Nat.div_le_self n (2 ^ s)
 generalize n / 2 ^ s=q at *
 omega
theorem u64_shr (x:UInt64) (s:Nat):(x.toNat:Int).fdiv (2 ^ s)=((toU64 ((x.toNat:Int).fdiv (2 ^ s))).toNat:Int):=(toU64_toNat (fdiv_range s x.toNat_lt)).symm
end Go.AX
end
section
namespace Go.AX
open Go.RowKit Go.Deep Go.ChangeShapes Go.WideShapes Go.ChangeAt
section
variable {H:Type} {enc:TypeId×Value→H} {P:Program} {w:World}
theorem Reads.map' {t:Nat} {α β:Type} {cells:α→List D} {ok:α→Prop} (h:Reads enc P w t cells ok) {cells':β→List D} {ok':β→Prop} (g:α→β) (hc :∀a,ok a→cells' (g a)=cells a) (hk :∀a,ok a→ok' (g a)):Reads enc P w t cells' ok':=by
 intro fuel cs x hx hw
 obtain ⟨a,h1,h2⟩:=h fuel cs x hx hw
 exact ⟨g a,hk a h1,by rw [hc a h1];exact h2⟩
theorem wf_range {k:IntKind} {n:Int} (h:(Lit.int k n).wf=true):k.min ≤ n∧n ≤ k.max:=by simpa [Lit.wf] using h
theorem reads_i64 {t:Nat} (ht:P.underlying t=some (.int .i64)):Reads enc P w t (fun n:Int=>[D.i n]) I64:=
 (reads_int ht).map' id (fun _ _=>rfl) fun a h=>by
  have:=wf_range h
  simpa [IntKind.min,IntKind.max,IntKind.signed,IntKind.bits,I64] using this
theorem open_one {t:Nat} {td:TypeDesc} (ht:P.underlying t=some td) (hk:(match td with | .int _ | .bool | .string | .slice _=>true | _=>false)=true) {α:Type} {c:α→D} {ok:α→Prop} (h:Reads enc P w t (fun a=>[c a]) ok) {base:Nat} {v:Value} {d:DataW H} {p:List MemPlace}
  (hval:Value.okWide P w .any base t v) (hv:DataW.Trod enc P w 0 (fun _=>true) true t v d p) (hw:Wt P t d) :∃x,ok x∧RepA (Old w) w (fun _=>none) (ofL []) (.d (c x)) v:=by
 obtain ⟨fuel,hf⟩:=hv
 obtain ⟨x,h1,h2⟩:=h fuel _ _ hf hw
 refine ⟨x,h1,.d _ _ (RepI.val (?_:RepI w [c x] [v]))⟩
 have hna :∀cs,v ≠ .agg cs:=by
  rintro cs rfl
  unfold Value.okWide at hval
  rw [ht] at hval
  cases td<;>simp at hk<;>simp [Cell.okWide,Cell.ok,ht] at hval
 have:v.cells.toList=[v]:=by
  cases v<;>first | rfl | (rename_i cs;exact absurd rfl (hna cs))
 rwa [this] at h2
inductive Opened (w:World):List Value→List AV→Prop
 | nil:Opened w [] []
 | cons {v:Value} {x:D} {vs:List Value} {avs:List AV} (h:RepA (Old w) w (fun _=>none) (ofL []) (.d x) v) (t:Opened w vs avs):Opened w (v::vs) (.d x::avs)
theorem Opened.get {vs:List Value} {avs:List AV} (h:Opened w vs avs):vs.length=avs.length∧∀i (hi:i < avs.length),RepA (Old w) w (fun _=>none) (ofL []) avs[i] (vs.getD i undef)∧Closed (ofL []) avs[i]:=by
 induction h with
 | nil=>exact ⟨rfl,fun i hi=>by simp at hi⟩
 | cons h t ih=>
  refine ⟨by simp [ih.1],fun i hi=>?_⟩
  cases i with
  | zero=>exact ⟨h,closed_d _ _⟩
  | succ i=>simpa using ih.2 i (by simpa using hi)
theorem trodAll_stays (hl:laidOutB P=true) {W W':World} (hb:Below W.heap.size W W') :∀{ts:List TypeId} {vs:List Value} {ds:List (DataW H)} {ps:List MemPlace},
  (ts.all fun t=>P.readableRec t && decide (t < P.types.size))=true→DataW.TrodAll enc P W 0 (fun _=>true) true ts vs ds ps→DataW.TrodAll enc P W' 0 (fun b=>decide (b < W.heap.size)) true ts vs ds ps
 | [],[],[],_,_,h=>h
 | t::ts,v::vs,d::ds,ps,hr,h=>by
  have hlt:=h.lt
  obtain ⟨p,q,h1,h2,rfl⟩:=h
  simp only [List.all_cons,Bool.and_eq_true,decide_eq_true_eq] at hr
  exact ⟨p,q,Below.trod hl hr.1.1 hr.1.2 h1 hb fun x hx=>hlt x (by simp [hx]),trodAll_stays hl hb hr.2 h2,rfl⟩
 | [],[],_::_,_,_,h=>h.elim
 | [],_::_,_,_,_,h=>h.elim
 | _::_,[],_,_,_,h=>h.elim
 | _::_,_::_,[],_,_,h=>h.elim
theorem trodAll_length :∀{ts:List TypeId} {vs:List Value} {ds:List (DataW H)} {ps:List MemPlace} {sp:Nat→Bool},DataW.TrodAll enc P w 0 sp true ts vs ds ps→ds.length=ts.length∧vs.length=ts.length
 | [],[],[],_,_,_=>⟨rfl,rfl⟩
 | t::ts,v::vs,d::ds,_,_,h=>by
  obtain ⟨p,q,_,h2,_⟩:=h
  obtain ⟨a,b⟩:=trodAll_length h2
  exact ⟨by simp [a],by simp [b]⟩
 | [],[],_::_,_,_,h=>h.elim
 | [],_::_,_,_,_,h=>h.elim
 | _::_,[],_,_,_,h=>h.elim
 | _::_,_::_,[],_,_,h=>h.elim
end
end Go.AX
end
section
namespace Go.AX
open Go.WideElems
section
variable {H:Type} {enc:TypeId×Value→H} {P:Program} {w:World} {sp:Nat→Bool} {held:Bool} {t k e:TypeId}
theorem keyOf_int {kd:IntKind} (hk:P.underlying k=some (.int kd)) {v:Value} {y:Lit} (h:keyOf P k v=some y) :∃n,v=.int kd n∧y=.int kd n:=by
 have h':mapKey P k v=some y:=by
  unfold keyOf at h
  rw [hk] at h
  exact h
 unfold mapKey at h'
 rw [hk] at h'
 cases v with
 | int q n=>
  simp only at h'
  split at h'
  ·rename_i hc
   obtain ⟨rfl,_⟩:=hc
   exact ⟨n,rfl,(Option.some.inj h').symm⟩
  ·cases h'
 | _=>simp at h'
theorem map_read {kd:IntKind} (ht:P.underlying t=some (.map k e)) (hk:P.underlying k=some (.int kd)) {fuel:Nat} {cs:List Value} {tab:List (Lit×DataW H)} {p:List MemPlace}
  (h:DataW.trod enc P w 0 sp held fuel t cs=some (.map tab,p)) (D2:Lit×DataW H→D×D)
  (hD :∀(n:Int) (v:Value) (d:DataW H) (m:Nat) (q:List MemPlace),(Lit.int kd n,d) ∈ tab→DataW.trod enc P w 0 sp held m e v.cells.toList=some (d,q)→v.formed P e=true→D2 (.int kd n,d)=(.val (.int kd n),.val v)∧v.oneCell'=true) :
  ∃b arr clock,cs=[.map (some b)]∧w.heap[b]?=some (.map arr clock)∧(arr.toList.map fun x=>(D.val x.key,D.val x.val)).Perm (tab.map D2)∧∀x ∈ arr.toList,x.key.oneCell'=true∧x.val.oneCell'=true:=by
 rcases open_map ht h with ⟨_,hx⟩ | ⟨b,arr,clock,n,_,hcs,hb,_,F,hx⟩
 ·simp at hx
 simp only [Prod.mk.injEq,DataW.map.injEq] at hx
 have hp:tab.Perm (arr.toList.map (rg P k (elemAt enc P w 0 sp held n e))):=by
  rw [hx.1];exact Go.WideShapes.sorted_perm _
 have hone :∀x ∈ arr.toList,D2 (rg P k (elemAt enc P w 0 sp held n e) x)=(D.val x.key,D.val x.val)∧x.key.oneCell'=true∧x.val.oneCell'=true:=by
  intro x hx
  obtain ⟨⟨yl,yd⟩,hy⟩:=F.reads x hx
  have hmem:(yl,yd) ∈ tab:=hp.mem_iff.2 (List.mem_map.2 ⟨x,hx,rg_of hy⟩)
  rw [rg_of hy]
  have hkey:=rd_key hy
  obtain ⟨m,h1,h2⟩:=keyOf_int hk hkey
  unfold rd at hy
  rw [hkey,Option.bind_some,Option.map_eq_some_iff] at hy
  obtain ⟨⟨d,q⟩,hd,hy⟩:=hy
  simp only [Prod.mk.injEq,true_and] at hy
  subst hy
  unfold elemAt at hd
  split at hd
  ·rename_i hf
   dsimp only at h2
   subst h2
   obtain ⟨g1,g2⟩:=hD m x.val d n q hmem hd hf
   rw [h1]
   exact ⟨g1,rfl,g2⟩
  ·simp at hd
 refine ⟨b,arr,clock,hcs,hb,?_,fun x hx=>(hone x hx).2⟩
 have e:(arr.toList.map fun x=>(D.val x.key,D.val x.val))=(arr.toList.map (rg P k (elemAt enc P w 0 sp held n e))).map D2:=by
  rw [List.map_map]
  exact List.map_congr_left fun x hx=>(hone x hx).1.symm
 rw [e]
 exact (hp.symm.map D2)
end
section
variable {H:Type} {enc:TypeId×Value→H} {P:Program} {w:World}
open Go.ChangeShapes Go.WideShapes Go.ChangeAt Go.RowKit
theorem frame_contractX {X:World→Prop} {wl:WL} {C:Checked} {f:FuncId} {fn:Func} {s:ChangeSpec} {b:TypeId} (hl:laidOutB C.prog=true) (hvars:s.vars=[]) (hfn :∀ds:List (DataW H),ds.length=fn.params.size→s.fn H (ds ++ [])={ results:=[.lit (.bool true)],args:=ds })
  (hres:fn.resultTypes=#[b]) (hb:C.prog.underlying b=some .bool) (hread:(fn.params.toList.all fun t=>C.prog.readableRec t && decide (t < C.prog.types.size))=true)
  (law :∀(W:World),X W→∀(base:Nat) (args:Array Value) (ds:List (DataW H)) (p:List MemPlace),(∀(j:Nat) t v,fn.params[j]?=some t→args[j]?=some v→Value.okWide C.prog W .any base t v)→
   DataW.TrodAll enc C.prog W 0 (fun _=>true) true fn.params.toList args.toList ds p→(∀(j:Nat) t d,fn.params.toList[j]?=some t→ds[j]?=some d→Wt C.prog t d)→∃avs,Opened W args.toList avs∧CallsOK wl C.prog f avs [] (.b true) []∧∃gb:Nat→Prop,wl.gf gb W∧∀b,gb b→b < W.heap.size) :
  ∀(W:World),X W→∀(base:Nat) (args:Array Value) (ds gs:List (DataW H)) (before:List MemPlace),
   (∀(j:Nat) t v,fn.params[j]?=some t→args[j]?=some v→Value.okWide C.prog W .any base t v)→
   DataW.Whole enc C.prog fn.params.toList s.vars false W args.toList ds gs before→
   (DataW.weightsEach C.prog (fn.params.toList ++ s.plain.varTypes C.prog) (ds ++ gs)).all (· ≤ reachBytes)=true→
   Calls C.prog f args W fun e W'=>∃v,e=.returned v∧s.post enc C.prog fn false true false false W args v W':=by
 intro W hX base args ds gs before hval hW hwt
 have hW':=hW
 obtain ⟨p,q,hA,hV,rfl,hfz,hnd⟩:=hW
 rw [hvars] at hV
 obtain ⟨rfl,rfl⟩:=trodVars_none hV
 have hd:ds.length=fn.params.size:=by simpa using (trodAll_length hA).1
 obtain ⟨avs,h1,h2,gb,hgb⟩:=law W hX base args ds p hval hA fun j t d ht hd'=>List.all_eq_true.2 fun n hn=>List.all_eq_true.1 hwt n (DataW.weights_mem_each (j:=j) (by
  rw [List.getElem?_append_left (List.getElem?_eq_some_iff.1 ht).1];exact ht) (by rw [List.getElem?_append_left (List.getElem?_eq_some_iff.1 hd').1];exact hd') n hn)
 obtain ⟨o1,o2⟩:=h1.get
 refine (walk_true h2 W hgb args (by simpa using o1) fun i hi=>by simpa [← Array.getElem?_toList] using o2 i hi).mono fun e W' ⟨he,bel⟩=>?_
 subst he
 refine ⟨_,rfl,ds,[],p ++ [],[],p,[],hW',?_,?_,?_,bel.frame _,fun h=>by cases h⟩
 ·rw [hfn ds hd,hres]
  exact trodAll_mk1 (shut_bool hb _)
 ·rw [hfn ds hd]
  exact trodAll_stays hl bel hread hA
 ·rw [hfn ds hd,hvars]
  rfl
end
theorem mapGet_perm {tk:TK} {x:D} {l m:List (D×D)} (hp:l.Perm m) (hk :∀p ∈ l,∃n,p.1=.val (.int .i64 n)) (hd:l.Pairwise fun a b=>a.1 ≠ b.1) {q:Option D} (h:mapGet tk x l=some q):mapGet tk x m=some q:=by
 induction hp generalizing q with
 | nil=>exact h
 | cons p hp ih=>
  simp only [mapGet] at h ⊢
  have h1:=List.pairwise_cons.1 hd
  split at h
  ·exact h
  ·exact ih (fun p hp=>hk p (List.mem_cons_of_mem _ hp)) h1.2 h
  ·cases h
 | swap a b l=>
  obtain ⟨i,hi⟩:=hk b (by simp)
  obtain ⟨j,hj⟩:=hk a (by simp)
  have hne:b.1 ≠ a.1:=(List.pairwise_cons.1 hd).1 a (by simp)
  simp only [mapGet,hi,hj] at h ⊢
  rw [hi,hj] at hne
  have hij:i ≠ j:=fun e=>hne (by rw [e])
  cases hx1:keyEq tk x (.val (.int .i64 i)) with
  | none=>rw [hx1] at h;cases h
  | some b1=>
   have hx2 :∃b2,keyEq tk x (.val (.int .i64 j))=some b2∧(b1=true→b2=false):=by
    unfold keyEq at hx1 ⊢
    split at hx1
    ·rename_i kk a' kk' bb heq
     cases heq
     split at hx1
     ·rename_i hkk
      rw [if_pos hkk]
      refine ⟨_,rfl,fun hb=>?_⟩
      obtain rfl:=Option.some.inj hx1
      simp only [beq_iff_eq] at hb
      subst hb
      simpa using hij
     ·cases hx1
    ·rename_i heq;cases heq
    ·rename_i heq;cases heq
    ·cases hx1
   obtain ⟨b2,hx2,hb⟩:=hx2
   rw [hx1,hx2] at h
   rw [hx2]
   cases b1
   ·cases b2<;>exact h
   ·rw [hb rfl]
    exact h
 | trans h1 h2 ih1 ih2=>
  refine ih2 (fun p hp=>hk p (h1.mem_iff.2 hp)) ((h1.pairwise_iff fun h e=>h e.symm).1 hd) (ih1 hk hd h)
theorem entsOK_of {w:World} {arr:List MapEntry} (h :∀x ∈ arr,x.key.oneCell'=true∧x.val.oneCell'=true):EntsOK (fun _ _=>False) w (arr.map fun x=>(D.val x.key,D.val x.val)) arr:=by
 refine ⟨by simp,fun i hi=>?_⟩
 have hi':i < arr.length:=by simpa using hi
 refine ⟨arr[i],List.getElem?_eq_getElem hi',⟨arr[i].key,by simp,rfl,(h _ (List.getElem_mem hi')).1⟩,?_⟩
 simp only [List.getElem_map]
 exact .val _ (h _ (List.getElem_mem hi')).2
end Go.AX
end
section
namespace Go.AX
theorem whileR_eq {σ ρ:Type} {body:(σ→Option ρ)→σ→Option ρ} (P:σ→Prop) (μ:σ→Nat) (F:σ→Option ρ)
  (hs :∀(next:σ→Option ρ) s,P s→(∀s',P s'→μ s' < μ s→next s'=F s')→body next s=F s) :
  ∀(n:Nat) (s:σ),P s→μ s < n→whileR body n s=F s
 | 0,s,_,h=>absurd h (Nat.not_lt_zero _)
 | n + 1,s,h,hm=>hs _ s h fun s' h' hlt=>whileR_eq P μ F hs n s' h' (by omega)
theorem whileR_ex {σ ρ:Type} {body:(σ→Option ρ)→σ→Option ρ} (P:σ→Prop) (μ:σ→Nat) (Q:ρ→Prop)
  (hs :∀(next:σ→Option ρ) s,P s→(∀s',P s'→μ s' < μ s→∃r,next s'=some r∧Q r)→∃r,body next s=some r∧Q r) :
  ∀(n:Nat) (s:σ),P s→μ s < n→∃r,whileR body n s=some r∧Q r
 | 0,s,_,h=>absurd h (Nat.not_lt_zero _)
 | n + 1,s,h,hm=>hs _ s h fun s' h' hlt=>whileR_ex P μ Q hs n s' h' (by omega)
theorem part_nat {α:Type} {l:List α} {a b:Nat} (h1:a ≤ b) (h2:b ≤ l.length):part l (a:Int) (b:Int)=some ((l.drop a).take (b - a)):=by
 unfold part
 rw [if_pos (by omega)]
 simp
theorem joinP_ite {τ ρ:Type} (b:Prop) [Decidable b] (x y:τ) (K:τ→Option ρ):joinP (fun k=>if b then k x else k y) K=K (if b then x else y):=by
 unfold joinP;split<;>rfl
theorem lt_fuel {n:Nat} (h:n < 18446744073709551616):n < fuel:=h
theorem apnd_some {α:Type} {b:Nat} {l m:List α} (hb:Nat.ble b 65536=true) (h:l.length + m.length ≤ 1000000000):apnd b l m=some (l ++ m):=by
 unfold apnd
 have hb:=Nat.le_of_ble_eq_true hb
 rw [if_pos]
 refine ⟨?_,by omega⟩
 calc _ ≤ 1000000000 * 65536:=Nat.mul_le_mul h hb
  _ ≤ 2 ^ 47:=by decide
theorem geti_nat {α:Type} {l:List α} {i:Nat} (h:i < l.length):geti l (i:Int)=some l[i]:=by
 unfold geti
 rw [if_pos (by omega)]
 simp [h]
theorem geti_at {α:Type} (pre:List α) (x:α) (t:List α):geti (pre ++ x::t) (pre.length:Int)=some x:=by
 rw [geti_nat (by simp)];simp
theorem i64w_id {x:Int} (h:-9223372036854775808 ≤ x∧x ≤ 9223372036854775807):i64w x=x:=i64_id rfl h
theorem some_bind' {α β:Type} (a:α) (f:α→Option β):(some a).bind f=f a:=Eq.trans rfl rfl
theorem joinP_def {τ ρ:Type} (m:(τ→Option ρ)→Option ρ) (k:τ→Option ρ):joinP m k=m k:=Eq.trans rfl rfl
end Go.AX
end
section
namespace Go.AX
theorem wk {np:Nat} {s s':ASt} (par:((List.range np).all fun r=>!(s.ob.getD r none).isSome || (s'.ob.getD r none).isSome)=true:=by rfl)
  (tm:tmW s s' s.tm s'.tm:=by
   repeat' (first
    | exact AvW.refl _
    | refine And.intro ?_ ?_
    | exact True.intro
    | exact AvW.norm _
    | exact AvW.fresh _ _ _ rfl rfl
    | exact AvW.lst _ _ _ _ _ _ rfl (by first | rfl | (simp only [List.length_map];omega)) (.inl rfl)
    | exact AvW.lst _ _ _ _ _ _ rfl (by first | rfl | (simp only [List.length_map];omega)) (.inr rfl)
    | exact AvW.ownL _ _ _ (by first | rfl | (simp only [List.length_map];omega))
    | exact AvW.osl _ _ _ _ _ (by first | rfl | (simp only [List.length_map];omega))
    | exact AvW.oslD _ _ _ _ _ _ _ _ _ rfl (by first | rfl | (simp only [List.length_map];omega)) view_w (.inl rfl)
    | exact AvW.oslD _ _ _ _ _ _ _ _ _ rfl (by first | rfl | (simp only [List.length_map];omega)) view_w (.inr rfl)
    | refine AvW.tupL ?_
    | refine AvW.daggL rfl ?_
    | refine AvW.aggL rfl ?_
    | refine AvW.aggDL ?_
    | refine AvW.box _ _ _ _ rfl rfl rfl (Nat.zero_lt_succ _) ?_
    | exact rfl))
  (ob:obW s s' s.ob s'.ob:=by
   repeat' (first
    | exact AvW.refl _
    | refine And.intro ?_ ?_
    | exact rfl
    | exact True.intro
    | refine Exists.intro _ (And.intro rfl ?_)
    | exact .inl ⟨_,rfl,id,True.intro⟩
    | exact .inl ⟨_,rfl,fun _=>rfl,True.intro⟩
    | exact .inl ⟨_,rfl,id,.inr ⟨_,_,rfl,rfl,(by first | rfl | (simp only [List.length_map];omega))⟩⟩
    | exact .inl ⟨_,rfl,id,.inl (Nat.le_of_ble_eq_true rfl)⟩
    | exact .inl ⟨_,rfl,id,.inl (Nat.le_of_eq (by assumption))⟩
    | exact .inr ⟨rfl,rfl,by decide⟩
    | exact .inl rfl
    | exact .inr ⟨_,_,_,rfl⟩
    | exact .inl ⟨_,rfl,(by first | rfl | (simp only [List.length_map];omega))⟩
    | exact AvW.norm _
    | exact AvW.fresh _ _ _ rfl rfl
    | exact AvW.lst _ _ _ _ _ _ rfl (by first | rfl | (simp only [List.length_map];omega)) (.inl rfl)
    | exact AvW.lst _ _ _ _ _ _ rfl (by first | rfl | (simp only [List.length_map];omega)) (.inr rfl)
    | exact AvW.ownL _ _ _ (by first | rfl | (simp only [List.length_map];omega))
    | refine AvW.tupL ?_
    | refine AvW.daggL rfl ?_
    | refine AvW.aggL rfl ?_
    | refine AvW.aggDL ?_
    | refine AvW.box _ _ _ _ rfl rfl rfl (Nat.zero_lt_succ _) ?_))
  (closed:closedS s'=true:=by rfl):Weak np s s':=.mk par tm ob closed
theorem nil_conv {α:Type} {b:Nat} {r:List α} (h:Option.bind (apnd (α:=α) b [] []) (fun v=>some v)=some r):(some []:Option (List α))=some r:=by
 simpa [apnd] using h
end Go.AX
end
section
namespace Go.AX.Q18
open Go Go.AX Go.Proofs
set_option maxRecDepth 100000
def ti3:TI:=⟨.int .i64,1,8,[.val (.int .i64 0)]⟩
def ti4:TI:=⟨.bool,1,1,[.val (.bool false)]⟩
def ti5:TI:=⟨.int .u8,1,1,[.val (.int .u8 0)]⟩
def ti9:TI:=⟨.str,1,16,[.val (.string ByteArray.empty)]⟩
def ti22:TI:=⟨.slice 3,1,24,[.nil 1]⟩
def ti23:TI:=⟨.ptr,1,8,[.val (.pointer none)]⟩
def ti25:TI:=⟨.slice 30,1,24,[.nil 3]⟩
def ti28:TI:=⟨.slice 5,1,24,[.nil 1]⟩
def ti29:TI:=⟨.struct [(0,1,3),(1,1,3),(2,1,28)],3,40,[.val (.int .i64 0),.val (.int .i64 0),.nil 1]⟩
def ti30:TI:=⟨.struct [(0,1,3),(1,1,3),(2,1,28)],3,40,[.val (.int .i64 0),.val (.int .i64 0),.nil 1]⟩
def ti31:TI:=⟨.slice 25,1,24,[.nil 1]⟩
def ti32:TI:=⟨.slice 84,1,24,[.nil 2]⟩
def ti33:TI:=⟨.int .u64,1,8,[.val (.int .u64 0)]⟩
def ti34:TI:=⟨.struct [(0,1,4),(1,1,33),(2,1,33)],3,24,[.val (.bool false),.val (.int .u64 0),.val (.int .u64 0)]⟩
def ti35:TI:=⟨.struct [(0,1,4),(1,1,33),(2,1,33)],3,24,[.val (.bool false),.val (.int .u64 0),.val (.int .u64 0)]⟩
def ti36:TI:=⟨.slice 106,1,24,[.nil 2]⟩
def ti37:TI:=⟨.slice 108,1,24,[.nil 3]⟩
def ti38:TI:=⟨.struct [(0,1,3),(1,1,32),(2,3,35),(5,1,3),(6,1,3),(7,1,3),(8,1,36),(9,1,37),(10,1,25)],11,152,[.val (.int .i64 0),.nil 2,.val (.bool false),.val (.int .u64 0),.val (.int .u64 0),.val (.int .i64 0),.val (.int .i64 0),.val (.int .i64 0),.nil 2,.nil 3,.nil 3]⟩
def ti39:TI:=⟨.struct [(0,1,3),(1,1,32),(2,3,35),(5,1,3),(6,1,3),(7,1,3),(8,1,36),(9,1,37),(10,1,25)],11,152,[.val (.int .i64 0),.nil 2,.val (.bool false),.val (.int .u64 0),.val (.int .u64 0),.val (.int .i64 0),.val (.int .i64 0),.val (.int .i64 0),.nil 2,.nil 3,.nil 3]⟩
def ti40:TI:=⟨.int .i64,1,8,[.val (.int .i64 0)]⟩
def ti50:TI:=⟨.slice 28,1,24,[.nil 1]⟩
def ti64:TI:=⟨.struct [(0,1,22),(1,1,3)],2,32,[.nil 1,.val (.int .i64 0)]⟩
def ti65:TI:=⟨.struct [(0,1,22),(1,1,3)],2,32,[.nil 1,.val (.int .i64 0)]⟩
def ti71:TI:=⟨.fn,1,8,[.val .nilFunc]⟩
def ti77:TI:=⟨.fn,1,8,[.val .nilFunc]⟩
def ti79:TI:=⟨.ptr,1,8,[.val (.pointer none)]⟩
def ti83:TI:=⟨.struct [(0,1,4),(1,1,22)],2,32,[.val (.bool false),.nil 1]⟩
def ti84:TI:=⟨.struct [(0,1,4),(1,1,22)],2,32,[.val (.bool false),.nil 1]⟩
def ti85:TI:=⟨.int .u64,1,8,[.val (.int .u64 0)]⟩
def ti90:TI:=⟨.map 3 3,1,8,[.val (.map none)]⟩
def ti91:TI:=⟨.fn,1,8,[.val .nilFunc]⟩
def ti99:TI:=⟨.slice 35,1,24,[.nil 3]⟩
def ti103:TI:=⟨.map 3 28,1,8,[.val (.map none)]⟩
def ti105:TI:=⟨.struct [(0,1,3),(1,1,3)],2,16,[.val (.int .i64 0),.val (.int .i64 0)]⟩
def ti106:TI:=⟨.struct [(0,1,3),(1,1,3)],2,16,[.val (.int .i64 0),.val (.int .i64 0)]⟩
def ti107:TI:=⟨.struct [(0,1,3),(1,1,3),(2,1,3)],3,24,[.val (.int .i64 0),.val (.int .i64 0),.val (.int .i64 0)]⟩
def ti108:TI:=⟨.struct [(0,1,3),(1,1,3),(2,1,3)],3,24,[.val (.int .i64 0),.val (.int .i64 0),.val (.int .i64 0)]⟩
def ti110:TI:=⟨.map 3 4,1,8,[.val (.map none)]⟩
def ti112:TI:=⟨.fn,1,8,[.val .nilFunc]⟩
def ti114:TI:=⟨.map 3 112,1,8,[.val (.map none)]⟩
def ti126:TI:=⟨.fn,1,8,[.val .nilFunc]⟩
def ti127:TI:=⟨.fn,1,8,[.val .nilFunc]⟩
def ti129:TI:=⟨.fn,1,8,[.val .nilFunc]⟩
def ti130:TI:=⟨.fn,1,8,[.val .nilFunc]⟩
def ti154:TI:=⟨.ptr,1,8,[.val (.pointer none)]⟩
def tt:TT:=(.node 65 ti65 (.node 32 ti32 (.node 23 ti23 (.node 5 ti5 (.node 4 ti4 (.node 3 ti3 .tip .tip) .tip) (.node 22 ti22 (.node 9 ti9 .tip .tip) .tip)) (.node 29 ti29 (.node 28 ti28 (.node 25 ti25 .tip .tip) .tip) (.node 31 ti31 (.node 30 ti30 .tip .tip) .tip))) (.node 38 ti38 (.node 35 ti35 (.node 34 ti34 (.node 33 ti33 .tip .tip) .tip) (.node 37 ti37 (.node 36 ti36 .tip .tip) .tip)) (.node 50 ti50 (.node 40 ti40 (.node 39 ti39 .tip .tip) .tip) (.node 64 ti64 .tip .tip)))) (.node 106 ti106 (.node 85 ti85 (.node 79 ti79 (.node 77 ti77 (.node 71 ti71 .tip .tip) .tip) (.node 84 ti84 (.node 83 ti83 .tip .tip) .tip)) (.node 99 ti99 (.node 91 ti91 (.node 90 ti90 .tip .tip) .tip) (.node 105 ti105 (.node 103 ti103 .tip .tip) .tip))) (.node 126 ti126 (.node 110 ti110 (.node 108 ti108 (.node 107 ti107 .tip .tip) .tip) (.node 114 ti114 (.node 112 ti112 .tip .tip) .tip)) (.node 130 ti130 (.node 129 ti129 (.node 127 ti127 .tip .tip) .tip) (.node 154 ti154 .tip .tip)))))
theorem tabOk:TabOk Tryd.prog tt:=tabB_ok (by kernel_rfl)
end Go.AX.Q18
end
section
namespace Go.AX
open Go.Sort
def ltC {X:Type} (cmp:X→X→Option Int) (a b:X):Bool:=match cmp a b with
 | some r=>decide (r < 0)
 | none=>false
def swoB {X:Type} (cmp:X→X→Option Int) (l:List X):Bool:=
 (l.all fun a=>l.all fun b=>(cmp a b).isSome) && (l.all fun a=>!ltC cmp a a) &&
 (l.all fun a=>l.all fun b=>l.all fun c=>!(ltC cmp a b) || !(ltC cmp b c) || ltC cmp a c) &&
 (l.all fun a=>l.all fun b=>l.all fun c=>ltC cmp a b || ltC cmp b c || !(ltC cmp a c)) && decide (l.length ≤ 1000000000)
def ixL {X:Type} (l:List X) (i:Nat):Option X:=l[min i (l.length - 1)]?
def cfI {X:Type} (cmp:X→X→Option Int) (l:List X) (i j:Nat):Int:=match ixL l i,ixL l j with
 | some a,some b=>(cmp a b).getD 0
 | _,_=>0
def pdqI {X:Type} (cmp:X→X→Option Int) (l:List X):Array Nat:=Sort.pdq (Proofs.ltOf (cfI cmp l)) (Array.range l.length) 0 l.length (Lib.bitLen l.length) true true
def sortF {X:Type} (cmp:X→X→Option Int) (l:List X):Option (List X):=match swoB cmp l with
 | true=>some ((pdqI cmp l).toList.filterMap fun i=>l[i]?)
 | false=>none
section
variable {X:Type} {cmp:X→X→Option Int} {l:List X}
theorem ixL_mem (h:0 < l.length) (i:Nat) :∃x ∈ l,ixL l i=some x:=by
 have hi:min i (l.length - 1) < l.length:=by omega
 exact ⟨l[min i (l.length - 1)],List.getElem_mem hi,by unfold ixL;exact List.getElem?_eq_getElem hi⟩
theorem swoB_spec (h:swoB cmp l=true):(∀a ∈ l,∀b ∈ l,∃r,cmp a b=some r)∧(∀a ∈ l,ltC cmp a a=false)∧
  (∀a ∈ l,∀b ∈ l,∀c ∈ l,ltC cmp a b=true→ltC cmp b c=true→ltC cmp a c=true)∧(∀a ∈ l,∀b ∈ l,∀c ∈ l,ltC cmp a b=false→ltC cmp b c=false→ltC cmp a c=false)∧l.length ≤ 1000000000:=by
 simp only [swoB,Bool.and_eq_true,List.all_eq_true,decide_eq_true_eq] at h
 obtain ⟨⟨⟨⟨h1,h2⟩,h3⟩,h4⟩,h5⟩:=h
 refine ⟨fun a ha b hb=>Option.isSome_iff_exists.1 (h1 a ha b hb),fun a ha=>by simpa using h2 a ha,fun a ha b hb c hc g1 g2=>?_,fun a ha b hb c hc g1 g2=>?_,h5⟩
 ·have:=h3 a ha b hb c hc
  simpa [g1,g2] using this
 ·have:=h4 a ha b hb c hc
  simpa [g1,g2] using this
theorem swoB_of (h1 :∀a ∈ l,∀b ∈ l,∃r,cmp a b=some r) (h2 :∀a ∈ l,ltC cmp a a=false)
  (h3 :∀a ∈ l,∀b ∈ l,∀c ∈ l,ltC cmp a b=true→ltC cmp b c=true→ltC cmp a c=true) (h4 :∀a ∈ l,∀b ∈ l,∀c ∈ l,ltC cmp a b=false→ltC cmp b c=false→ltC cmp a c=false) (h5:l.length ≤ 1000000000):swoB cmp l=true:=by
 simp only [swoB,Bool.and_eq_true,List.all_eq_true,decide_eq_true_eq]
 refine ⟨⟨⟨⟨fun a ha b hb=>Option.isSome_iff_exists.2 (h1 a ha b hb),fun a ha=>by simp [h2 a ha]⟩,fun a ha b hb c hc=>?_⟩,fun a ha b hb c hc=>?_⟩,h5⟩
 ·cases g1:ltC cmp a b
  ·simp
  ·cases g2:ltC cmp b c
   ·simp
   ·simp [h3 a ha b hb c hc g1 g2]
 ·cases g1:ltC cmp a b
  ·cases g2:ltC cmp b c
   ·simp [h4 a ha b hb c hc g1 g2]
   ·simp
  ·simp
theorem ltOf_cfI (i j:Nat) (a b:X) (ha:ixL l i=some a) (hb:ixL l j=some b):Proofs.ltOf (cfI cmp l) i j=ltC cmp a b:=by
 unfold Proofs.ltOf cfI ltC
 rw [ha,hb]
 cases h:cmp a b<;>simp [h]
theorem swo_cfI (h:swoB cmp l=true) (hl:0 < l.length):SWO (Proofs.ltOf (cfI cmp l)):=by
 obtain ⟨_,h2,h3,h4,_⟩:=swoB_spec h
 refine ⟨fun x=>?_,fun x y z=>?_,fun x y z=>?_⟩
 ·obtain ⟨a,ha,ea⟩:=ixL_mem hl x
  rw [ltOf_cfI x x a a ea ea]
  exact h2 a ha
 ·obtain ⟨a,ha,ea⟩:=ixL_mem hl x
  obtain ⟨b,hb,eb⟩:=ixL_mem hl y
  obtain ⟨c,hc,ec⟩:=ixL_mem hl z
  rw [ltOf_cfI _ _ _ _ ea eb,ltOf_cfI _ _ _ _ eb ec,ltOf_cfI _ _ _ _ ea ec]
  exact h3 a ha b hb c hc
 ·obtain ⟨a,ha,ea⟩:=ixL_mem hl x
  obtain ⟨b,hb,eb⟩:=ixL_mem hl y
  obtain ⟨c,hc,ec⟩:=ixL_mem hl z
  rw [ltOf_cfI _ _ _ _ ea eb,ltOf_cfI _ _ _ _ eb ec,ltOf_cfI _ _ _ _ ea ec]
  exact h4 a ha b hb c hc
theorem pdqI_spec (h:swoB cmp l=true) (hl:0 < l.length):(pdqI cmp l).size=l.length∧(pdqI cmp l).toList.Perm (List.range l.length)∧∀i j,i < j→j < l.length→Proofs.ltOf (cfI cmp l) (pdqI cmp l)[j]! (pdqI cmp l)[i]! = false:=by
 obtain ⟨⟨h1,_,h2⟩,h3⟩:=pdq_sorts (Proofs.ltOf (cfI cmp l)) (swo_cfI h hl) (Array.range l.length) 0 l.length (Lib.bitLen l.length) true true (Nat.zero_le _) (by simp) (Or.inl rfl)
 have h1:(pdqI cmp l).size=l.length:=by simpa [pdqI] using h1
 refine ⟨h1,?_,fun i j hij hj=>h3 i j (Nat.zero_le _) hij hj⟩
 have e1:((pdqI cmp l).extract 0 l.length)=pdqI cmp l:=by rw [← h1];exact Array.extract_size
 have e2:((Array.range l.length).extract 0 l.length)=Array.range l.length:=by
  have:(Array.range l.length).size=l.length:=by simp
  conv=>lhs;arg 3;rw [← this]
  exact Array.extract_size
 have h2':((pdqI cmp l).extract 0 l.length).toList.Perm ((Array.range l.length).extract 0 l.length).toList:=h2
 rw [e1,e2] at h2'
 simpa using h2'
theorem filterMap_range (l:List X):(List.range l.length).filterMap (fun i=>l[i]?)=l:=by
 have :∀(n:Nat),n ≤ l.length→(List.range n).filterMap (fun i=>l[i]?)=l.take n:=by
  intro n
  induction n with
  | zero=>intro _;simp
  | succ n ih=>
   intro hn
   have hlt:n < l.length:=by omega
   rw [List.range_succ,List.filterMap_append,ih (by omega),List.take_add_one]
   simp [List.getElem?_eq_getElem hlt]
 rw [this _ (Nat.le_refl _),List.take_length]
theorem sortF_get {r:List X} (h:sortF cmp l=some r) (hl:0 < l.length):r.length=l.length∧∀i,i < l.length→(pdqI cmp l)[i]! < l.length∧r[i]?=l[(pdqI cmp l)[i]!]?:=by
 unfold sortF at h
 split at h
 ·rename_i hs
  obtain ⟨h1,h2,h3⟩:=pdqI_spec hs hl
  obtain rfl:=Option.some.inj h
  have hm :∀i ∈ (pdqI cmp l).toList,i < l.length:=fun i hi=>by simpa using h2.mem_iff.1 hi
  have key :∀(q:List Nat),(∀i ∈ q,i < l.length)→(q.filterMap fun i=>l[i]?).length=q.length∧∀j (hj:j < q.length),(q.filterMap fun i=>l[i]?)[j]?=l[q[j]]?:=by
   intro q
   induction q with
   | nil=>intro _;exact ⟨rfl,fun j hj=>by simp at hj⟩
   | cons x q ih=>
    intro hq
    obtain ⟨g1,g2⟩:=ih fun i hi=>hq i (List.mem_cons_of_mem _ hi)
    have hx:=hq x (List.mem_cons_self ..)
    have e:(x::q).filterMap (fun i=>l[i]?)=l[x]::q.filterMap fun i=>l[i]?:=by
     rw [List.filterMap_cons,List.getElem?_eq_getElem hx]
    rw [e]
    refine ⟨by simp [g1],fun j hj=>?_⟩
    cases j with
    | zero=>simp [List.getElem?_eq_getElem hx]
    | succ j=>simpa using g2 j (by simpa using hj)
  obtain ⟨g1,g2⟩:=key (pdqI cmp l).toList hm
  refine ⟨by rw [g1];simpa using h1,fun i hi=>?_⟩
  have hi':i < (pdqI cmp l).toList.length:=by simpa [h1] using hi
  have hget:(pdqI cmp l)[i]! = (pdqI cmp l).toList[i]:=by
   rw [getElem!_pos _ i (by simpa using hi')]
   simp
  rw [hget]
  exact ⟨hm _ (List.getElem_mem hi'),g2 i hi'⟩
 ·simp at h
theorem sortF_spec {r:List X} (h:sortF cmp l=some r):r.Perm l∧r.Pairwise fun a b=>ltC cmp b a=false:=by
 by_cases hl:0 < l.length
 ·have h0:=h
  obtain ⟨hlen,hget⟩:=sortF_get h hl
  unfold sortF at h
  split at h
  ·rename_i hs
   obtain ⟨h1,h2,h3⟩:=pdqI_spec hs hl
   obtain rfl:=Option.some.inj h
   refine ⟨?_,?_⟩
   ·have:=h2.filterMap fun i=>l[i]?
    rwa [filterMap_range] at this
   ·rw [List.pairwise_iff_getElem]
    intro i j hi hj hij
    have hi':i < l.length:=by omega
    have hj':j < l.length:=by omega
    obtain ⟨p1,p2⟩:=hget i hi'
    obtain ⟨q1,q2⟩:=hget j hj'
    rw [List.getElem?_eq_getElem hi,List.getElem?_eq_getElem p1] at p2
    rw [List.getElem?_eq_getElem hj,List.getElem?_eq_getElem q1] at q2
    have:=h3 i j hij hj'
    rw [ltOf_cfI (cmp:=cmp) (l:=l) _ _ _ _ (by unfold ixL;rw [Nat.min_eq_left (by omega)];exact List.getElem?_eq_getElem q1) (by unfold ixL;rw [Nat.min_eq_left (by omega)];exact List.getElem?_eq_getElem p1)] at this
    rw [Option.some.inj p2,Option.some.inj q2]
    exact this
  ·simp at h
 ·have:l=[]:=List.eq_nil_of_length_eq_zero (by omega)
  subst this
  unfold sortF at h
  split at h
  ·obtain rfl:=Option.some.inj h
   have:(pdqI cmp ([]:List X)).toList.filterMap (fun i=>([]:List X)[i]?)=[]:=by simp
   rw [this]
   exact ⟨.refl _,.nil⟩
  ·simp at h
theorem sortF_len {r:List X} (h:sortF cmp l=some r):r.length=l.length:=(sortF_spec h).1.length_eq
theorem sortF_some (h:swoB cmp l=true) :∃r,sortF cmp l=some r:=by
 unfold sortF
 rw [h]
 exact ⟨_,rfl⟩
end
def sortI (l:List Int):Option (List Int):=if l.length < 4611686018427387904 then some (l.mergeSort fun x y=>decide (x ≤ y)) else none
theorem sortI_len {l r:List Int} (h:sortI l=some r):r.length=l.length:=by
 unfold sortI at h
 split at h
 ·obtain rfl:=Option.some.inj h;simp
 ·simp at h
end Go.AX
end
section
namespace Go.AX.Q18
open Go Go.AX
set_option linter.unusedVariables false
def glob0:List (Int×Int):=[(1,64),(2,64),(3,64),(4,128),(5,64),(8,192),(32,192),(35,192)]
structure Deck where
  L:List Int
  At:Int
def Deck.toD (x:Deck):D:=.agg [D.l 1 D.i x.L,D.i x.At]
def Deck.av (x:Deck):List AV:=[.d (D.l 1 D.i x.L),.d (D.i x.At)]
def Deck.zv:List AV:=[.d (D.nil 1),.d (D.i 0)]
def Deck.wf (x:Deck):Prop:=(x.L.length ≤ maxLen∧x.L.length * 8 ≤ reachBytes∧∀y0 ∈ x.L,I64 y0)∧I64 x.At∧True
structure Segment where
  Set:Bool
  ASNs:List Int
def Segment.toD (x:Segment):D:=.agg [D.b x.Set,D.l 1 D.i x.ASNs]
def Segment.av (x:Segment):List AV:=[.d (D.b x.Set),.d (D.l 1 D.i x.ASNs)]
def Segment.zv:List AV:=[.d (D.b false),.d (D.nil 1)]
def Segment.wf (x:Segment):Prop:=True∧(x.ASNs.length ≤ maxLen∧x.ASNs.length * 8 ≤ reachBytes∧∀y0 ∈ x.ASNs,I64 y0)∧True
structure Addr where
  V6:Bool
  Hi:UInt64
  Lo:UInt64
def Addr.toD (x:Addr):D:=.agg [D.b x.V6,D.u64 x.Hi,D.u64 x.Lo]
def Addr.av (x:Addr):List AV:=[.d (D.b x.V6),.d (D.u64 x.Hi),.d (D.u64 x.Lo)]
def Addr.zv:List AV:=[.d (D.b false),.d (D.u64 (0:UInt64)),.d (D.u64 (0:UInt64))]
def Addr.wf (x:Addr):Prop:=True∧True∧True∧True
def Addr.eqd (x y:Addr):Bool:=((x.V6 == y.V6) && (((x.Hi.toNat:Int) == (y.Hi.toNat:Int)) && (((x.Lo.toNat:Int) == (y.Lo.toNat:Int)) && true)))
structure Community where
  A:Int
  B:Int
def Community.toD (x:Community):D:=.agg [D.i x.A,D.i x.B]
def Community.av (x:Community):List AV:=[.d (D.i x.A),.d (D.i x.B)]
def Community.zv:List AV:=[.d (D.i 0),.d (D.i 0)]
def Community.wf (x:Community):Prop:=I64 x.A∧I64 x.B∧True
def Community.eqd (x y:Community):Bool:=((x.A == y.A) && ((x.B == y.B) && true))
structure Large where
  A:Int
  B:Int
  C:Int
def Large.toD (x:Large):D:=.agg [D.i x.A,D.i x.B,D.i x.C]
def Large.av (x:Large):List AV:=[.d (D.i x.A),.d (D.i x.B),.d (D.i x.C)]
def Large.zv:List AV:=[.d (D.i 0),.d (D.i 0),.d (D.i 0)]
def Large.wf (x:Large):Prop:=I64 x.A∧I64 x.B∧I64 x.C∧True
def Large.eqd (x y:Large):Bool:=((x.A == y.A) && ((x.B == y.B) && ((x.C == y.C) && true)))
structure Unknown where
  Flags:Int
  Type_:Int
  Data:List UInt8
def Unknown.toD (x:Unknown):D:=.agg [D.i x.Flags,D.i x.Type_,D.l 1 D.u8 x.Data]
def Unknown.av (x:Unknown):List AV:=[.d (D.i x.Flags),.d (D.i x.Type_),.d (D.l 1 D.u8 x.Data)]
def Unknown.zv:List AV:=[.d (D.i 0),.d (D.i 0),.d (D.nil 1)]
def Unknown.wf (x:Unknown):Prop:=I64 x.Flags∧I64 x.Type_∧(x.Data.length ≤ maxLen∧x.Data.length * 1 ≤ reachBytes∧∀y0 ∈ x.Data,True)∧True
structure Attrs where
  Origin:Int
  Path:List Segment
  Next:Addr
  MED:Int
  Pref:Int
  OTC:Int
  Communities:List Community
  Large:List Large
  Other:List Unknown
def Attrs.toD (x:Attrs):D:=.agg [D.i x.Origin,D.l 2 Segment.toD x.Path,D.b x.Next.V6,D.u64 x.Next.Hi,D.u64 x.Next.Lo,D.i x.MED,D.i x.Pref,D.i x.OTC,D.l 2 Community.toD x.Communities,D.l 3 Large.toD x.Large,D.l 3 Unknown.toD x.Other]
def Attrs.av (x:Attrs):List AV:=[.d (D.i x.Origin),.d (D.l 2 Segment.toD x.Path),.d (D.b x.Next.V6),.d (D.u64 x.Next.Hi),.d (D.u64 x.Next.Lo),.d (D.i x.MED),.d (D.i x.Pref),.d (D.i x.OTC),.d (D.l 2 Community.toD x.Communities),.d (D.l 3 Large.toD x.Large),.d (D.l 3 Unknown.toD x.Other)]
def Attrs.zv:List AV:=[.d (D.i 0),.d (D.nil 2),.d (D.b false),.d (D.u64 (0:UInt64)),.d (D.u64 (0:UInt64)),.d (D.i 0),.d (D.i 0),.d (D.i 0),.d (D.nil 2),.d (D.nil 3),.d (D.nil 3)]
def Attrs.wf (x:Attrs):Prop:=I64 x.Origin∧(x.Path.length ≤ maxLen∧x.Path.length * 32 ≤ reachBytes∧∀y0 ∈ x.Path,Segment.wf y0)∧Addr.wf x.Next∧I64 x.MED∧I64 x.Pref∧I64 x.OTC∧(x.Communities.length ≤ maxLen∧x.Communities.length * 16 ≤ reachBytes∧∀y0 ∈ x.Communities,Community.wf y0)∧(x.Large.length ≤ maxLen∧x.Large.length * 24 ≤ reachBytes∧∀y0 ∈ x.Large,Large.wf y0)∧(x.Other.length ≤ maxLen∧x.Other.length * 40 ≤ reachBytes∧∀y0 ∈ x.Other,Unknown.wf y0)∧True
def make_New (a0:List Int):Option Deck:= some (⟨a0,0⟩:Deck)
def make_Mod (a0:Int) (a1:Int):Option Int:= Option.bind (chk (a1 ≠ 0)) fun _=> joinP (τ:=Int) (fun k1=> if (decide ((Int.tmod a0 a1) < 0)) then k1 (i64w ((Int.tmod a0 a1) + a1)) else k1 (Int.tmod a0 a1)
) fun v2=> some v2
def make_Spoilt (a0:List UInt8) (a1:Int) (a2:Int):Option (List UInt8):= Option.bind (apnd (α:=UInt8) 1 [] a0) fun _=> if ((a0.length:Int) == 0) then some ([(toU8 a2)]:List UInt8) else Option.bind (make_Mod a1 (a0.length:Int)) fun v1=> Option.bind (make_Mod (i64w (Int.tdiv a2 256)) 4) fun v2=> if (v2 == 0) then Option.bind (geti a0 v1) fun v3=> Option.bind (seti a0 v1 (toU8 a2)) fun v4=> some v4 else if (v2 == 1) then Option.bind (chk (0 ≤ (0:Int)∧(0:Int) ≤ v1∧v1 ≤ (a0.length:Int))) fun _=> Option.bind (chk (0 ≤ (i64w (v1 + 1))∧(i64w (v1 + 1)) ≤ (a0.length:Int)∧(a0.length:Int) ≤ (a0.length:Int))) fun _=> Option.bind (apnd (α:=UInt8) 1 (List.take (Int.toNat v1 - Int.toNat 0) a0) (List.take (Int.toNat (a0.length:Int) - Int.toNat (i64w (v1 + 1))) (List.drop (Int.toNat (i64w (v1 + 1))) a0))) fun v5=> some v5 else if (v2 == 2) then Option.bind (chk (0 ≤ (0:Int)∧(0:Int) ≤ v1∧v1 ≤ (a0.length:Int))) fun _=> Option.bind (apnd (α:=UInt8) 1 [] (List.take (Int.toNat v1 - Int.toNat 0) (List.drop (Int.toNat 0) a0))) fun _=> Option.bind (apnd (α:=UInt8) 1 (List.take (Int.toNat v1 - Int.toNat 0) (List.drop (Int.toNat 0) a0)) ([(toU8 a2)]:List UInt8)) fun v6=> Option.bind (chk (0 ≤ v1∧v1 ≤ (a0.length:Int)∧(a0.length:Int) ≤ (a0.length:Int))) fun _=> Option.bind (apnd (α:=UInt8) 1 v6 (List.take (Int.toNat (a0.length:Int) - Int.toNat v1) (List.drop (Int.toNat v1) a0))) fun v7=> some v7 else Option.bind (part a0 0 v1) fun v8=> some v8
def make_Deck_Next (a0:Deck) (a1:Int):Option (Int×Deck):= if (decide (a0.At ≥ (a0.L.length:Int))) then some (0,a0) else Option.bind (geti a0.L (i64w ((i64w (a0.At + 1)) - 1))) fun v1=> Option.bind (make_Mod v1 a1) fun v2=> some (v2,(⟨a0.L,(i64w (a0.At + 1))⟩:Deck))
def make_Deck_Bytes (a0:Deck) (a1:Int):Option ((List UInt8)×Deck):= Option.bind (make_Deck_Next a0 (i64w (a1 + 1))) fun (v1,v2)=> joinP (τ:=Deck×(List UInt8)) (fun k3=> whileR (σ:=Int×Deck×(List UInt8)) (fun next4 (v5,v6,v7)=> if (decide (v5 > 0)) then Option.bind (make_Deck_Next v6 256) fun (v8,v9)=> Option.bind (apnd (α:=UInt8) 1 v7 ([(toU8 v8)]:List UInt8)) fun v10=> next4 ((i64w (v5 - 1)),v9,v10) else k3 (v6,v7)
) fuel (v1,v2,[])
) fun (v11,v12)=> some (v12,v11)
def ref15_Valid (a0:List Segment):Option Bool:= joinP (τ:=Int) (fun k1=> forR (σ:=Int) (fun v2=> k1 v2
) (fun next3 (x4:Segment) i5 v2=> joinP (τ:=Unit) (fun k6=> joinP (τ:=Bool) (fun k7=> if ((x4.ASNs.length:Int) == 0) then k7 true else if (decide ((i5:Int) > 0)) then if (cond true (!x4.Set) false) then Option.bind (geti a0 (i64w ((i5:Int) - 1))) fun v8=> k7 (cond false true (cond true (!v8.Set) false)) else k7 false else k7 false
) fun v9=> if v9 then some false else joinP (τ:=Unit) (fun k10=> forR (σ:=Unit) (fun _=> k10 ()
) (fun next11 (x12:Int) i13 _=> joinP (τ:=Bool) (fun k14=> if (decide (x12 < 1)) then k14 true else if (cond false true (decide (x12 > 4294967295))) then k14 true else if x4.Set then if (cond true (decide ((i13:Int) > 0)) false) then Option.bind (geti x4.ASNs (i64w ((i13:Int) - 1))) fun v15=> k14 (cond false true (cond true (decide (v15 ≥ x12)) false)) else k14 false else k14 false
) fun v16=> if v16 then some false else next11 ()
) x4.ASNs 0 ()
) fun _=> k6 ()
) fun _=> next3 (i64w (v2 + (x4.ASNs.length:Int)))
) a0 0 0
) fun v17=> some (decide (v17 ≤ 64))
def make_Deck_asn (a0:Deck):Option (Int×Deck):= Option.bind (make_Deck_Next a0 9) fun (v1,v2)=> Option.bind (make_Deck_Next v2 3) fun (v3,v4)=> Option.bind (make_Deck_Next v4 7) fun (v5,v6)=> Option.bind (geti ([1,7,3,65001,4294967295,(i64w (1 + v1)),(i64w (64512 + v3))]:List Int) v5) fun v7=> some (v7,v6)
def make_Deck_Path (a0:Deck):Option ((List Segment)×Deck):= Option.bind (make_Deck_Next a0 4) fun (v1,v2)=> joinP (τ:=Deck×(List Segment)) (fun k3=> whileR (σ:=Int×Deck×(List Segment)) (fun next4 (v5,v6,v7)=> if (decide (v5 > 0)) then joinP (τ:=Deck×(List Segment)) (fun k8=> joinP (τ:=Bool×Deck) (fun k9=> if (decide ((v7.length:Int) > 0)) then Option.bind (geti v7 (i64w ((v7.length:Int) - 1))) fun v10=> if (cond true (!v10.Set) false) then k9 (true,v6) else Option.bind (make_Deck_Next v6 5) fun (v11,v12)=> k9 ((cond false true (v11 == 4)),v12) else Option.bind (make_Deck_Next v6 5) fun (v13,v14)=> k9 ((cond false true (v13 == 4)),v14)
) fun (v15,v16)=> Option.bind (make_Deck_Next v16 4) fun (v17,v18)=> joinP (τ:=Deck×(List Int)) (fun k19=> whileR (σ:=Int×Deck×(List Int)) (fun next20 (v21,v22,v23)=> if (decide (v21 > 0)) then joinP (τ:=Deck×(List Int)) (fun k24=> Option.bind (make_Deck_asn v22) fun (v25,v26)=> if (!v15) then Option.bind (apnd (α:=Int) 8 v23 ([v25]:List Int)) fun v27=> k24 (v26,v27) else joinP (τ:=Int) (fun k28=> whileR (σ:=Int) (fun next29 v30=> joinP (τ:=Bool) (fun k31=> if (decide (v30 < (v23.length:Int))) then Option.bind (geti v23 v30) fun v32=> k31 (cond true (decide (v32 < v25)) false) else k31 false
) fun v33=> if v33 then next29 (i64w (v30 + 1)) else k28 v30
) fuel 0
) fun v34=> joinP (τ:=Bool) (fun k35=> if (v34 == (v23.length:Int)) then k35 true else Option.bind (geti v23 v34) fun v36=> k35 (cond false true (v36 != v25))
) fun v37=> joinP (τ:=(List Int)) (fun k38=> if v37 then Option.bind (chk (0 ≤ (0:Int)∧(0:Int) ≤ v34∧v34 ≤ (v23.length:Int))) fun _=> Option.bind (apnd (α:=Int) 8 [] (List.take (Int.toNat v34 - Int.toNat 0) (List.drop (Int.toNat 0) v23))) fun _=> Option.bind (apnd (α:=Int) 8 (List.take (Int.toNat v34 - Int.toNat 0) (List.drop (Int.toNat 0) v23)) ([v25]:List Int)) fun v39=> Option.bind (chk (0 ≤ v34∧v34 ≤ (v23.length:Int)∧(v23.length:Int) ≤ (v23.length:Int))) fun _=> Option.bind (apnd (α:=Int) 8 v39 (List.take (Int.toNat (v23.length:Int) - Int.toNat v34) (List.drop (Int.toNat v34) v23))) fun v40=> k38 v40 else k38 v23
) fun v41=> k24 (v26,v41)
) fun (v42,v43)=> next20 ((i64w (v21 - 1)),v42,v43) else k19 (v22,v23)
) fuel ((i64w (1 + v17)),v18,[])
) fun (v44,v45)=> Option.bind (apnd (α:=Segment) 32 v7 ([(⟨v15,v45⟩:Segment)]:List Segment)) fun v46=> Option.bind (ref15_Valid v46) fun v47=> joinP (τ:=(List Segment)) (fun k48=> if (!v47) then Option.bind (part v46 0 (i64w ((v46.length:Int) - 1))) fun v49=> k48 v49 else k48 v46
) fun v50=> k8 (v44,v50)
) fun (v51,v52)=> next4 ((i64w (v5 - 1)),v51,v52) else k3 (v6,v7)
) fuel (v1,v2,[])
) fun (v53,v54)=> some (v54,v53)
def make_four (a0:Int):Option Addr:= some (⟨false,(0:UInt64),(toU64 (3221225984 + ((toU64 (i64w (1 + a0))).toNat:Int)))⟩:Addr)
def make_six (a0:Int):Option Addr:= some (⟨true,(2306139568115548160:UInt64),(toU64 (i64w (1 + a0)))⟩:Addr)
def ref17_right (a0:Community):Option Bool:= joinP (τ:=Bool) (fun k1=> if (decide (a0.A ≥ 0)) then if (cond true (decide (a0.A ≤ 65535)) false) then if (cond true (decide (a0.B ≥ 0)) false) then k1 (cond true (decide (a0.B ≤ 65535)) false) else k1 false else k1 false else k1 false
) fun v2=> some v2
def ref17_less (a0:Community) (a1:Community):Option Bool:= joinP (τ:=Bool) (fun k1=> if (decide (a0.A < a1.A)) then k1 true else if (a0.A == a1.A) then k1 (cond false true (cond true (decide (a0.B < a1.B)) false)) else k1 false
) fun v2=> some v2
def ref17_Valid (a0:List Community):Option Bool:= joinP (τ:=Unit) (fun k1=> forR (σ:=Unit) (fun _=> k1 ()
) (fun next2 (x3:Community) i4 _=> joinP (τ:=Bool) (fun k5=> Option.bind (ref17_right x3) fun v6=> if (!v6) then k5 true else if (decide ((i4:Int) > 0)) then Option.bind (geti a0 (i64w ((i4:Int) - 1))) fun v7=> Option.bind (ref17_less v7 x3) fun v8=> k5 (cond false true (cond true (!v8) false)) else k5 false
) fun v9=> if v9 then some false else next2 ()
) a0 0 ()
) fun _=> some (decide ((a0.length:Int) ≤ 64))
def ref17_Has (a0:List Community) (a1:Community):Option Bool:= joinP (τ:=Unit) (fun k1=> forR (σ:=Unit) (fun _=> k1 ()
) (fun next2 (x3:Community) i4 _=> if (Community.eqd x3 a1) then some true else next2 ()
) a0 0 ()
) fun _=> some false
def ref17_Add (a0:List Community) (a1:Community):Option ((List Community)×Int):= joinP (τ:=Bool) (fun k1=> Option.bind (ref17_Valid a0) fun v2=> if (!v2) then k1 true else Option.bind (ref17_right a1) fun v3=> k1 (cond false true (!v3))
) fun v4=> if v4 then some ([],1) else Option.bind (ref17_Has a0 a1) fun v5=> if v5 then Option.bind (apnd (α:=Community) 16 [] a0) fun _=> some (a0,0) else if (decide ((a0.length:Int) ≥ 64)) then some ([],3) else joinP (τ:=Int) (fun k6=> whileR (σ:=Int) (fun next7 v8=> joinP (τ:=Bool) (fun k9=> if (decide (v8 < (a0.length:Int))) then Option.bind (geti a0 v8) fun v10=> Option.bind (ref17_less v10 a1) fun v11=> k9 (cond true v11 false) else k9 false
) fun v12=> if v12 then next7 (i64w (v8 + 1)) else k6 v8
) fuel 0
) fun v13=> Option.bind (part a0 0 v13) fun v14=> Option.bind (apnd (α:=Community) 16 [] v14) fun _=> Option.bind (apnd (α:=Community) 16 v14 ([a1]:List Community)) fun v15=> Option.bind (part a0 v13 (a0.length:Int)) fun v16=> Option.bind (apnd (α:=Community) 16 v15 v16) fun v17=> some (v17,0)
def ref17_rightLarge (a0:Large):Option Bool:= joinP (τ:=Bool) (fun k1=> if (decide (a0.A ≥ 0)) then if (cond true (decide (a0.A ≤ 4294967295)) false) then if (cond true (decide (a0.B ≥ 0)) false) then if (cond true (decide (a0.B ≤ 4294967295)) false) then if (cond true (decide (a0.C ≥ 0)) false) then k1 (cond true (decide (a0.C ≤ 4294967295)) false) else k1 false else k1 false else k1 false else k1 false else k1 false
) fun v2=> some v2
def ref17_lessLarge (a0:Large) (a1:Large):Option Bool:= joinP (τ:=Bool) (fun k1=> if (decide (a0.A < a1.A)) then k1 true else if (a0.A == a1.A) then if (decide (a0.B < a1.B)) then k1 true else if (a0.B == a1.B) then k1 (cond false true (cond true (cond false true (cond true (decide (a0.C < a1.C)) false)) false)) else k1 false else k1 false
) fun v2=> some v2
def ref17_ValidLarge (a0:List Large):Option Bool:= joinP (τ:=Unit) (fun k1=> forR (σ:=Unit) (fun _=> k1 ()
) (fun next2 (x3:Large) i4 _=> joinP (τ:=Bool) (fun k5=> Option.bind (ref17_rightLarge x3) fun v6=> if (!v6) then k5 true else if (decide ((i4:Int) > 0)) then Option.bind (geti a0 (i64w ((i4:Int) - 1))) fun v7=> Option.bind (ref17_lessLarge v7 x3) fun v8=> k5 (cond false true (cond true (!v8) false)) else k5 false
) fun v9=> if v9 then some false else next2 ()
) a0 0 ()
) fun _=> some (decide ((a0.length:Int) ≤ 64))
def ref17_HasLarge (a0:List Large) (a1:Large):Option Bool:= joinP (τ:=Unit) (fun k1=> forR (σ:=Unit) (fun _=> k1 ()
) (fun next2 (x3:Large) i4 _=> if (Large.eqd x3 a1) then some true else next2 ()
) a0 0 ()
) fun _=> some false
def ref17_AddLarge (a0:List Large) (a1:Large):Option ((List Large)×Int):= joinP (τ:=Bool) (fun k1=> Option.bind (ref17_ValidLarge a0) fun v2=> if (!v2) then k1 true else Option.bind (ref17_rightLarge a1) fun v3=> k1 (cond false true (!v3))
) fun v4=> if v4 then some ([],1) else Option.bind (ref17_HasLarge a0 a1) fun v5=> if v5 then Option.bind (apnd (α:=Large) 24 [] a0) fun _=> some (a0,0) else if (decide ((a0.length:Int) ≥ 64)) then some ([],3) else joinP (τ:=Int) (fun k6=> whileR (σ:=Int) (fun next7 v8=> joinP (τ:=Bool) (fun k9=> if (decide (v8 < (a0.length:Int))) then Option.bind (geti a0 v8) fun v10=> Option.bind (ref17_lessLarge v10 a1) fun v11=> k9 (cond true v11 false) else k9 false
) fun v12=> if v12 then next7 (i64w (v8 + 1)) else k6 v8
) fuel 0
) fun v13=> Option.bind (part a0 0 v13) fun v14=> Option.bind (apnd (α:=Large) 24 [] v14) fun _=> Option.bind (apnd (α:=Large) 24 v14 ([a1]:List Large)) fun v15=> Option.bind (part a0 v13 (a0.length:Int)) fun v16=> Option.bind (apnd (α:=Large) 24 v15 v16) fun v17=> some (v17,0)
def make_Deck_Communities (a0:Deck):Option ((List Community)×(List Large)×Deck):= Option.bind (make_Deck_Next a0 5) fun (v1,v2)=> joinP (τ:=(List Community)×Deck) (fun k3=> whileR (σ:=(List Community)×Int×Deck) (fun next4 (v5,v6,v7)=> if (decide (v6 > 0)) then Option.bind (make_Deck_Next v7 4) fun (v8,v9)=> Option.bind (geti ([65000,65535,0,1]:List Int) v8) fun v10=> Option.bind (make_Deck_Next v9 5) fun (v11,v12)=> Option.bind (make_Deck_Next v12 4) fun (v13,v14)=> Option.bind (geti ([0,666,65535,(i64w (1 + v11))]:List Int) v13) fun v15=> Option.bind (ref17_Add v5 (⟨v10,v15⟩:Community)) fun (v16,v17)=> next4 (v16,(i64w (v6 - 1)),v14) else k3 (v5,v7)
) fuel ([],v1,v2)
) fun (v18,v19)=> Option.bind (make_Deck_Next v19 4) fun (v20,v21)=> joinP (τ:=(List Large)×Deck) (fun k22=> whileR (σ:=(List Large)×Int×Deck) (fun next23 (v24,v25,v26)=> if (decide (v25 > 0)) then Option.bind (make_Deck_Next v26 3) fun (v27,v28)=> Option.bind (geti ([65000,4294967295,0]:List Int) v27) fun v29=> Option.bind (make_Deck_Next v28 3) fun (v30,v31)=> Option.bind (make_Deck_Next v31 4) fun (v32,v33)=> Option.bind (ref17_AddLarge v24 (⟨v29,v30,v32⟩:Large)) fun (v34,v35)=> next23 (v34,(i64w (v25 - 1)),v33) else k22 (v24,v26)
) fuel ([],v20,v21)
) fun (v36,v37)=> some (v18,v36,v37)
def make_Deck_Attrs (a0:Deck):Option (Attrs×Deck):= joinP (τ:=Unit) (fun k1=> k1 ()
) fun _=> Option.bind (make_Deck_Next a0 4) fun (v2,v3)=> Option.bind (make_Deck_Path v3) fun (v4,v5)=> Option.bind (make_four 3) fun v6=> Option.bind (make_six 4) fun v7=> Option.bind (make_Deck_Next v5 3) fun (v8,v9)=> Option.bind (geti ([(⟨false,(0:UInt64),(0:UInt64)⟩:Addr),v6,v7]:List Addr) v8) fun v10=> Option.bind (make_Deck_Next v9 4) fun (v11,v12)=> Option.bind (geti ([(-1),0,100,4294967295]:List Int) v11) fun v13=> Option.bind (make_Deck_Next v12 4) fun (v14,v15)=> Option.bind (geti ([(-1),0,100,4294967295]:List Int) v14) fun v16=> Option.bind (make_Deck_Next v15 3) fun (v17,v18)=> Option.bind (geti ([(-1),1,65000]:List Int) v17) fun v19=> Option.bind (make_Deck_Communities v18) fun (v20,v21,v22)=> joinP (τ:=Deck×(List Unknown)) (fun k23=> forR (σ:=Deck×(List Unknown)) (fun (v24,v25)=> k23 (v24,v25)
) (fun next26 (x27:Int) i28 (v24,v25)=> Option.bind (make_Deck_Next v24 6) fun (v29,v30)=> joinP (τ:=Deck×(List Unknown)) (fun k31=> if (v29 == 5) then Option.bind (make_Deck_Bytes v30 9) fun (v32,v33)=> Option.bind (apnd (α:=Unknown) 40 v25 ([(⟨224,x27,v32⟩:Unknown)]:List Unknown)) fun v34=> k31 (v33,v34) else k31 (v30,v25)
) fun (v35,v36)=> next26 (v35,v36)
) ([6,7,16,34,200,255]:List Int) 0 (v22,[])
) fun (v37,v38)=> some ((⟨(i64w (v2 - 1)),v4,v10,v13,v16,v19,v20,v21,v38⟩:Attrs),v37)
def ref18_flags (a0:Int):Option Int:= joinP (τ:=Bool) (fun k1=> if (a0 == 1) then k1 (a0 == 1) else joinP (τ:=Bool) (fun k2=> if (a0 == 2) then k2 (a0 == 2) else joinP (τ:=Bool) (fun k3=> if (a0 == 3) then k3 (a0 == 3) else k3 (a0 == 5)
) fun v4=> k2 v4
) fun v5=> k1 v5
) fun v6=> if v6 then some 64 else if (a0 == 4) then some 128 else joinP (τ:=Bool) (fun k7=> if (a0 == 8) then k7 (a0 == 8) else joinP (τ:=Bool) (fun k8=> if (a0 == 32) then k8 (a0 == 32) else k8 (a0 == 35)
) fun v9=> k7 v9
) fun v10=> if v10 then some 192 else some 0
def ref18_unknown (a0:Int):Option Bool:= joinP (τ:=Bool) (fun k1=> Option.bind (ref18_flags a0) fun v2=> if (v2 == 0) then if (cond true (a0 != 14) false) then k1 (cond true (a0 != 15) false) else k1 false else k1 false
) fun v3=> some v3
def ref01_Valid (a0:Addr):Option Bool:= joinP (τ:=Bool) (fun k1=> if a0.V6 then k1 true else if ((a0.Hi.toNat:Int) == 0) then k1 (cond false true (cond true (decide ((a0.Lo.toNat:Int) < 4294967296)) false)) else k1 false
) fun v2=> some v2
def ref18_Valid (a0:Attrs):Option Bool:= joinP (τ:=Unit) (fun k1=> forR (σ:=Unit) (fun _=> k1 ()
) (fun next2 (x3:Unknown) i4 _=> joinP (τ:=Bool) (fun k5=> if (decide (x3.Type_ < 1)) then k5 true else if (cond false true (decide (x3.Type_ > 255))) then k5 true else Option.bind (ref18_unknown x3.Type_) fun v6=> if (cond false true (!v6)) then k5 true else if (cond false true (x3.Flags != 224)) then k5 true else if (cond false true (decide ((x3.Data.length:Int) > 255))) then k5 true else if (decide ((i4:Int) > 0)) then Option.bind (geti a0.Other (i64w ((i4:Int) - 1))) fun v7=> k5 (cond false true (cond true (decide (v7.Type_ ≥ x3.Type_)) false)) else k5 false
) fun v8=> if v8 then some false else next2 ()
) a0.Other 0 ()
) fun _=> joinP (τ:=Bool) (fun k9=> if (decide (a0.Origin ≥ (-1))) then if (cond true (decide (a0.Origin ≤ 2)) false) then Option.bind (ref15_Valid a0.Path) fun v10=> if (cond true v10 false) then Option.bind (ref01_Valid a0.Next) fun v11=> if (cond true v11 false) then if (cond true (decide (a0.MED ≥ (-1))) false) then if (cond true (decide (a0.MED ≤ 4294967295)) false) then if (cond true (decide (a0.Pref ≥ (-1))) false) then if (cond true (decide (a0.Pref ≤ 4294967295)) false) then if (a0.OTC == (-1)) then Option.bind (ref17_Valid a0.Communities) fun v12=> if (cond true v12 false) then Option.bind (ref17_ValidLarge a0.Large) fun v13=> if (cond true v13 false) then k9 (cond true (decide ((a0.Other.length:Int) ≤ 8)) false) else k9 false else k9 false else if (decide (a0.OTC ≥ 1)) then if (cond true (cond false true (cond true (decide (a0.OTC ≤ 4294967295)) false)) false) then Option.bind (ref17_Valid a0.Communities) fun v14=> if (cond true v14 false) then Option.bind (ref17_ValidLarge a0.Large) fun v15=> if (cond true v15 false) then k9 (cond true (decide ((a0.Other.length:Int) ≤ 8)) false) else k9 false else k9 false else k9 false else k9 false else k9 false else k9 false else k9 false else k9 false else k9 false else k9 false else k9 false else k9 false
) fun v16=> some v16
def ref18_word (a0:Int) (a1:Int):Option (List UInt8):= joinP (τ:=(List UInt8)) (fun k1=> whileR (σ:=Int×(List UInt8)) (fun next2 (v3,v4)=> if (decide (v3 ≥ 0)) then Option.bind (apnd (α:=UInt8) 1 v4 ([(toU8 (Int.fdiv a0 (2 ^ (min (Int.toNat ((toU64 (8 * ((toU64 v3).toNat:Int))).toNat:Int)) 64))))]:List UInt8)) fun v5=> next2 ((i64w (v3 - 1)),v5) else k1 v4
) fuel ((i64w (a1 - 1)),[])
) fun v6=> some v6
def ref01_Bytes (a0:Addr):Option (List UInt8):= Option.bind (ref01_Valid a0) fun v1=> if (!v1) then some [] else joinP (τ:=Int) (fun k2=> if a0.V6 then k2 16 else k2 4
) fun v3=> joinP (τ:=(List UInt8)) (fun k4=> whileR (σ:=Int×(List UInt8)) (fun next5 (v6,v7)=> if (decide (v6 ≥ 0)) then joinP (τ:=UInt64) (fun k8=> if (decide (v6 ≥ 8)) then k8 a0.Hi else k8 a0.Lo
) fun v9=> Option.bind (apnd (α:=UInt8) 1 v7 ([(toU8 ((toU64 (Int.fdiv (v9.toNat:Int) (2 ^ (min (Int.toNat ((toU64 (8 * ((toU64 (Int.tmod v6 8)).toNat:Int))).toNat:Int)) 64)))).toNat:Int))]:List UInt8)) fun v10=> next5 ((i64w (v6 - 1)),v10) else k4 v7
) fuel ((i64w (v3 - 1)),[])
) fun v11=> some v11
def ref18_Write (a0:Attrs):Option ((List Unknown)×Int):= Option.bind (ref18_Valid a0) fun v1=> if (!v1) then some ([],1) else joinP (τ:=(List (Int×(List UInt8)))) (fun k2=> if (decide (a0.Origin ≥ 0)) then k2 (mset [] 1 ([(toU8 a0.Origin)]:List UInt8)) else k2 []
) fun v3=> joinP (τ:=Bool) (fun k4=> if (decide (a0.Origin ≥ 0)) then k4 true else k4 (cond false true (decide ((a0.Path.length:Int) > 0)))
) fun v5=> joinP (τ:=(List (Int×(List UInt8)))) (fun k6=> if v5 then joinP (τ:=(List UInt8)) (fun k7=> forR (σ:=(List UInt8)) (fun v8=> k7 v8
) (fun next9 (x10:Segment) i11 v8=> joinP (τ:=(List UInt8)) (fun k12=> joinP (τ:=UInt8) (fun k13=> if x10.Set then k13 (1:UInt8) else k13 (2:UInt8)
) fun v14=> Option.bind (apnd (α:=UInt8) 1 v8 ([v14,(toU8 (x10.ASNs.length:Int))]:List UInt8)) fun v15=> joinP (τ:=(List UInt8)) (fun k16=> forR (σ:=(List UInt8)) (fun v17=> k16 v17
) (fun next18 (x19:Int) i20 v17=> Option.bind (ref18_word x19 4) fun v21=> Option.bind (apnd (α:=UInt8) 1 v17 v21) fun v22=> next18 v22
) x10.ASNs 0 v15
) fun v23=> k12 v23
) fun v24=> next9 v24
) a0.Path 0 ([]:List UInt8)
) fun v25=> k6 (mset v3 2 v25) else k6 v3
) fun v26=> joinP (τ:=Bool) (fun k27=> if (!(Addr.eqd a0.Next (⟨false,(0:UInt64),(0:UInt64)⟩:Addr))) then k27 (cond true (!a0.Next.V6) false) else k27 false
) fun v28=> joinP (τ:=(List (Int×(List UInt8)))) (fun k29=> if v28 then Option.bind (ref01_Bytes a0.Next) fun v30=> k29 (mset v26 3 v30) else k29 v26
) fun v31=> joinP (τ:=(List (Int×(List UInt8)))) (fun k32=> if (decide (a0.MED ≥ 0)) then Option.bind (ref18_word a0.MED 4) fun v33=> k32 (mset v31 4 v33) else k32 v31
) fun v34=> joinP (τ:=(List (Int×(List UInt8)))) (fun k35=> if (decide (a0.Pref ≥ 0)) then Option.bind (ref18_word a0.Pref 4) fun v36=> k35 (mset v34 5 v36) else k35 v34
) fun v37=> joinP (τ:=(List (Int×(List UInt8)))×(List UInt8)) (fun k38=> Option.bind (chk ((mget v37 8).isNone=true)) fun _=> forR (σ:=(List (Int×(List UInt8)))×(List UInt8)) (fun (v39,v40)=> k38 (v39,v40)
) (fun next41 (x42:Community) i43 (v39,v40)=> Option.bind (ref18_word x42.A 2) fun v44=> Option.bind (apnd (α:=UInt8) 1 v40 v44) fun v45=> Option.bind (ref18_word x42.B 2) fun v46=> Option.bind (apnd (α:=UInt8) 1 v45 v46) fun v47=> next41 ((mset v39 8 v47),v47)
) a0.Communities 0 (v37,[])
) fun (v48,v49)=> joinP (τ:=(List (Int×(List UInt8)))×(List UInt8)) (fun k50=> Option.bind (chk ((mget v48 32).isNone=true)) fun _=> forR (σ:=(List (Int×(List UInt8)))×(List UInt8)) (fun (v51,v52)=> k50 (v51,v52)
) (fun next53 (x54:Large) i55 (v51,v52)=> Option.bind (ref18_word x54.A 4) fun v56=> Option.bind (apnd (α:=UInt8) 1 v52 v56) fun v57=> Option.bind (ref18_word x54.B 4) fun v58=> Option.bind (apnd (α:=UInt8) 1 v57 v58) fun v59=> Option.bind (ref18_word x54.C 4) fun v60=> Option.bind (apnd (α:=UInt8) 1 v59 v60) fun v61=> next53 ((mset v51 32 v61),v61)
) a0.Large 0 (v48,[])
) fun (v62,v63)=> joinP (τ:=(List (Int×(List UInt8)))) (fun k64=> if (decide (a0.OTC ≥ 0)) then Option.bind (ref18_word a0.OTC 4) fun v65=> k64 (mset v62 35 v65) else k64 v62
) fun v66=> joinP (τ:=(List Unknown)) (fun k67=> whileR (σ:=Int×(List Unknown)) (fun next68 (v69,v70)=> if (decide (v69 < 256)) then joinP (τ:=(List Unknown)) (fun k71=> Option.bind (some (Option.getD (mget v66 v69) [])) fun v72=> Option.bind (some (Option.isSome (mget v66 v69))) fun v73=> joinP (τ:=(List Unknown)) (fun k74=> if v73 then Option.bind (ref18_flags v69) fun v75=> Option.bind (apnd (α:=UInt8) 1 [] v72) fun _=> Option.bind (apnd (α:=Unknown) 40 v70 ([(⟨v75,v69,v72⟩:Unknown)]:List Unknown)) fun v76=> k74 v76 else k74 v70
) fun v77=> joinP (τ:=(List Unknown)) (fun k78=> forR (σ:=(List Unknown)) (fun v79=> k78 v79
) (fun next80 (x81:Unknown) i82 v79=> joinP (τ:=(List Unknown)) (fun k83=> if (x81.Type_ == v69) then Option.bind (apnd (α:=UInt8) 1 [] x81.Data) fun _=> Option.bind (apnd (α:=Unknown) 40 v79 ([{ x81 with Type_:=v69 }]:List Unknown)) fun v84=> k83 v84 else k83 v79
) fun v85=> next80 v85
) a0.Other 0 v77
) fun v86=> k71 v86
) fun v87=> next68 ((i64w (v69 + 1)),v87) else k67 v70
) fuel (0,[])
) fun v88=> some (v88,0)
def law18_list (a0:Deck):Option ((List Unknown)×Deck):= Option.bind (make_Deck_Attrs a0) fun (v1,v2)=> Option.bind (ref18_Write v1) fun (v3,v4)=> Option.bind (make_Deck_Next v2 4) fun (v5,v6)=> joinP (τ:=(List Unknown)×Deck) (fun k7=> whileR (σ:=(List Unknown)×Int×Deck) (fun next8 (v9,v10,v11)=> if (decide (v10 > 0)) then Option.bind (make_Deck_Next v11 7) fun (v12,v13)=> Option.bind (geti ([64,128,192,224,0,96,160]:List Int) v12) fun v14=> Option.bind (make_Deck_Next v13 14) fun (v15,v16)=> Option.bind (geti ([1,2,3,4,5,8,32,35,14,15,6,99,0,255]:List Int) v15) fun v17=> Option.bind (make_Deck_Bytes v16 14) fun (v18,v19)=> joinP (τ:=Bool×Deck) (fun k20=> if (decide ((v9.length:Int) > 0)) then Option.bind (make_Deck_Next v19 2) fun (v21,v22)=> k20 ((cond true (v21 == 0) false),v22) else k20 (false,v19)
) fun (v23,v24)=> joinP (τ:=Deck×Unknown) (fun k25=> if v23 then Option.bind (make_Deck_Next v24 (v9.length:Int)) fun (v26,v27)=> Option.bind (geti v9 v26) fun v28=> Option.bind (make_Deck_Next v27 4) fun (v29,v30)=> joinP (τ:=Deck×Unknown) (fun k31=> if (v29 == 0) then Option.bind (make_Deck_Next v30 4) fun (v32,v33)=> Option.bind (geti ([64,128,192,224]:List Int) v32) fun v34=> k31 (v33,{ v28 with Flags:=v34 }) else joinP (τ:=Deck×(List UInt8)) (fun k35=> if (v29 == 1) then Option.bind (make_Deck_Next v30 40) fun (v36,v37)=> Option.bind (make_Deck_Next v37 1024) fun (v38,v39)=> Option.bind (make_Spoilt v28.Data v36 v38) fun v40=> k35 (v39,v40) else joinP (τ:=(List UInt8)) (fun k41=> if (v29 == 2) then Option.bind (apnd (α:=UInt8) 1 [] v28.Data) fun _=> Option.bind (apnd (α:=UInt8) 1 v28.Data v28.Data) fun v42=> k41 v42 else k41 v28.Data
) fun v43=> k35 (v30,v43)
) fun (v44,v45)=> k31 (v44,{ v28 with Data:=v45 })
) fun (v46,v47)=> k25 (v46,v47) else k25 (v24,(⟨v14,v17,v18⟩:Unknown))
) fun (v48,v49)=> Option.bind (make_Deck_Next v48 (i64w ((v9.length:Int) + 1))) fun (v50,v51)=> Option.bind (part v9 0 v50) fun v52=> Option.bind (apnd (α:=Unknown) 40 [] v52) fun _=> Option.bind (apnd (α:=Unknown) 40 v52 ([v49]:List Unknown)) fun v53=> Option.bind (part v9 v50 (v9.length:Int)) fun v54=> Option.bind (apnd (α:=Unknown) 40 v53 v54) fun v55=> next8 (v55,(i64w (v10 - 1)),v51) else k7 (v9,v11)
) fuel (v3,v5,v6)
) fun (v56,v57)=> some (v56,v57)
def attribute_firsts (a0:List Unknown):Option (List Unknown):= joinP (τ:=(List Unknown)) (fun k1=> forR (σ:=(List (Int×Bool))×(List Unknown)) (fun (v2,v3)=> k1 v3
) (fun next4 (x5:Unknown) i6 (v2,v3)=> Option.bind (some (Option.getD (mget v2 x5.Type_) false)) fun v7=> joinP (τ:=(List Unknown)) (fun k8=> if (!v7) then Option.bind (apnd (α:=Unknown) 40 v3 ([x5]:List Unknown)) fun v9=> k8 v9 else k8 v3
) fun v10=> next4 ((mset v2 x5.Type_ true),v10)
) a0 0 ([],[])
) fun v11=> some v11
def attribute_unknown (a0:Int):Option Bool:= joinP (τ:=Bool) (fun k1=> Option.bind (some (Option.getD (mget glob0 a0) 0)) fun v2=> if (v2 == 0) then if (cond true (a0 != 14) false) then k1 (cond true (a0 != 15) false) else k1 false else k1 false
) fun v3=> some v3
def attribute_Read_1 (a0:Unknown):Option Bool:= joinP (τ:=Bool) (fun k1=> Option.bind (attribute_unknown a0.Type_) fun v2=> if v2 then k1 (cond true ((i64w ((BitVec.ofInt 64 a0.Flags &&& BitVec.ofInt 64 128).toNat:Int)) == 0) false) else k1 false
) fun v3=> some v3
def attribute_right (a0:Unknown):Option Bool:= joinP (τ:=Bool) (fun k1=> Option.bind (some (Option.getD (mget glob0 a0.Type_) 0)) fun v2=> if ((i64w ((BitVec.ofInt 64 (i64w ((BitVec.ofInt 64 a0.Flags ^^^ BitVec.ofInt 64 v2).toNat:Int)) &&& BitVec.ofInt 64 192).toNat:Int)) == 0) then Option.bind (some (Option.getD (mget glob0 a0.Type_) 0)) fun v3=> if (v3 == 192) then k1 true else k1 (cond true (cond false true ((i64w ((BitVec.ofInt 64 a0.Flags &&& BitVec.ofInt 64 32).toNat:Int)) == 0)) false) else k1 false
) fun v4=> some v4
def attribute_get (a0:List UInt8):Option Int:= joinP (τ:=Int) (fun k1=> forR (σ:=Int) (fun v2=> k1 v2
) (fun next3 (x4:UInt8) i5 v2=> next3 (i64w ((BitVec.ofInt 64 (i64w (v2 * (2 ^ (min (Int.toNat 8) 64)))) ||| BitVec.ofInt 64 (x4.toNat:Int)).toNat:Int))
) a0 0 0
) fun v6=> some v6
def aspath_Number (a0:Int):Option Bool:= joinP (τ:=Bool) (fun k1=> if (decide (a0 ≥ 1)) then k1 (cond true (decide (a0 ≤ 4294967295)) false) else k1 false
) fun v2=> some v2
def aspath_Valid (a0:List Segment):Option Bool:= joinP (τ:=Int) (fun k1=> forR (σ:=Int) (fun v2=> k1 v2
) (fun next3 (x4:Segment) i5 v2=> joinP (τ:=Unit) (fun k6=> joinP (τ:=Bool) (fun k7=> if ((x4.ASNs.length:Int) == 0) then k7 true else if (decide ((i5:Int) > 0)) then if (cond true (!x4.Set) false) then Option.bind (geti a0 (i64w ((i5:Int) - 1))) fun v8=> k7 (cond false true (cond true (!v8.Set) false)) else k7 false else k7 false
) fun v9=> if v9 then some false else joinP (τ:=Unit) (fun k10=> forR (σ:=Unit) (fun _=> k10 ()
) (fun next11 (x12:Int) i13 _=> joinP (τ:=Bool) (fun k14=> Option.bind (aspath_Number x12) fun v15=> if (!v15) then k14 true else if x4.Set then if (cond true (decide ((i13:Int) > 0)) false) then Option.bind (geti x4.ASNs (i64w ((i13:Int) - 1))) fun v16=> k14 (cond false true (cond true (decide (v16 ≥ x12)) false)) else k14 false else k14 false
) fun v17=> if v17 then some false else next11 ()
) x4.ASNs 0 ()
) fun _=> k6 ()
) fun _=> next3 (i64w (v2 + (x4.ASNs.length:Int)))
) a0 0 0
) fun v18=> some (decide (v18 ≤ 64))
def attribute_numbers (a0:List UInt8):Option (List Int):= joinP (τ:=(List Int)) (fun k1=> whileR (σ:=(List UInt8)×(List Int)) (fun next2 (v3,v4)=> if (decide ((v3.length:Int) ≥ 4)) then Option.bind (part v3 0 4) fun v5=> Option.bind (attribute_get v5) fun v6=> Option.bind (apnd (α:=Int) 8 v4 ([v6]:List Int)) fun v7=> Option.bind (part v3 4 (v3.length:Int)) fun v8=> next2 (v8,v7) else k1 v4
) fuel (a0,[])
) fun v9=> some v9
def slices_Compact_int_int (a0:List Int):Option (List Int):= if (decide ((a0.length:Int) < 2)) then some a0 else joinP (τ:=Unit) (fun k1=> whileR (σ:=Int) (fun next2 v3=> if (decide (v3 < (a0.length:Int))) then joinP (τ:=Unit) (fun k4=> Option.bind (geti a0 v3) fun v5=> Option.bind (geti a0 (i64w (v3 - 1))) fun v6=> if (v5 == v6) then Option.bind (chk (0 ≤ v3∧v3 ≤ (a0.length:Int)∧(a0.length:Int) ≤ (a0.length:Int))) fun _=> joinP (τ:=Int×(List Int)) (fun k7=> whileR (σ:=Int×Int×(List Int)) (fun next8 (v9,v10,v11)=> if (decide (v10 < (((Int.toNat (a0.length:Int) - Int.toNat v3):Nat):Int))) then Option.bind (geti (List.take (Int.toNat (a0.length:Int) - Int.toNat v3) (List.drop (Int.toNat v3) v11)) v10) fun v12=> Option.bind (geti (List.take (Int.toNat (a0.length:Int) - Int.toNat v3) (List.drop (Int.toNat v3) v11)) (i64w (v10 - 1))) fun v13=> joinP (τ:=Int×(List Int)) (fun k14=> if (v12 != v13) then Option.bind (geti (List.take (Int.toNat (a0.length:Int) - Int.toNat v3) (List.drop (Int.toNat v3) v11)) v10) fun v15=> Option.bind (geti v11 v9) fun v16=> Option.bind (seti v11 v9 v15) fun v17=> k14 ((i64w (v9 + 1)),v17) else k14 (v9,v11)
) fun (v18,v19)=> next8 (v18,(i64w (v10 + 1)),v19) else k7 (v9,v11)
) fuel (v3,1,a0)
) fun (v20,v21)=> Option.bind (chk (0 ≤ v20∧v20 ≤ (v21.length:Int)∧(v21.length:Int) ≤ (v21.length:Int))) fun _=> Option.bind (part (List.take (Int.toNat v20) v21 ++ List.replicate (Int.toNat (v21.length:Int) - Int.toNat v20) 0 ++ List.drop ((Int.toNat v20) + (Int.toNat (v21.length:Int) - Int.toNat v20)) v21) 0 v20) fun v22=> some v22 else k4 ()
) fun _=> next2 (i64w (v3 + 1)) else k1 ()
) fuel 1
) fun _=> some a0
def addr_FromBytes (a0:List UInt8):Option (Addr×Int):= joinP (τ:=Bool) (fun k1=> if ((a0.length:Int) != 4) then k1 (cond true ((a0.length:Int) != 16) false) else k1 false
) fun v2=> if v2 then some ((⟨false,(0:UInt64),(0:UInt64)⟩:Addr),1) else joinP (τ:=Addr) (fun k3=> forR (σ:=Addr) (fun v4=> k3 v4
) (fun next5 (x6:UInt8) i7 v4=> next5 (⟨v4.V6,(toU64 ((BitVec.ofInt 64 ((toU64 ((v4.Hi.toNat:Int) * (2 ^ (min (Int.toNat 8) 64)))).toNat:Int) ||| BitVec.ofInt 64 ((toU64 (Int.fdiv (v4.Lo.toNat:Int) (2 ^ (min (Int.toNat 56) 64)))).toNat:Int)).toNat:Int)),(toU64 ((BitVec.ofInt 64 ((toU64 ((v4.Lo.toNat:Int) * (2 ^ (min (Int.toNat 8) 64)))).toNat:Int) ||| BitVec.ofInt 64 ((toU64 (x6.toNat:Int)).toNat:Int)).toNat:Int))⟩:Addr)
) a0 0 (⟨((a0.length:Int) == 16),(0:UInt64),(0:UInt64)⟩:Addr)
) fun v8=> some (v8,0)
def slices_Min_int_int (a0:List Int):Option Int:= if (decide ((a0.length:Int) < 1)) then none else Option.bind (geti a0 0) fun v1=> joinP (τ:=Int) (fun k2=> whileR (σ:=Int×Int) (fun next3 (v4,v5)=> if (decide (v5 < (a0.length:Int))) then Option.bind (geti a0 v5) fun v6=> next3 ((if v6 < v4 then v6 else v4),(i64w (v5 + 1))) else k2 v4
) fuel (v1,1)
) fun v7=> some v7
def slices_Max_int_int (a0:List Int):Option Int:= if (decide ((a0.length:Int) < 1)) then none else Option.bind (geti a0 0) fun v1=> joinP (τ:=Int) (fun k2=> whileR (σ:=Int×Int) (fun next3 (v4,v5)=> if (decide (v5 < (a0.length:Int))) then Option.bind (geti a0 v5) fun v6=> next3 ((if v6 > v4 then v6 else v4),(i64w (v5 + 1))) else k2 v4
) fuel (v1,1)
) fun v7=> some v7
def community_within (a0:Int) (a1:List Int):Option Bool:= joinP (τ:=Bool) (fun k1=> Option.bind (slices_Min_int_int a1) fun v2=> if (decide (v2 ≥ 0)) then Option.bind (slices_Max_int_int a1) fun v3=> k1 (cond true (decide (v3 ≤ a0)) false) else k1 false
) fun v4=> some v4
def community_fits (a0:Community):Option Bool:= Option.bind (community_within 65535 ([a0.A,a0.B]:List Int)) fun v1=> some v1
def cmp_isNaN_int (a0:Int):Option Bool:= some (a0 != a0)
def cmp_Compare_int (a0:Int) (a1:Int):Option Int:= Option.bind (cmp_isNaN_int a0) fun v1=> Option.bind (cmp_isNaN_int a1) fun v2=> if v1 then if v2 then some 0 else some (-1) else if v2 then some 1 else if (decide (a0 < a1)) then some (-1) else if (decide (a0 > a1)) then some 1 else some 0
def cmp_Or_int (a0:List Int):Option Int:= joinP (τ:=Unit) (fun k1=> forR (σ:=Unit) (fun _=> k1 ()
) (fun next2 (x3:Int) i4 _=> if (x3 != 0) then some x3 else next2 ()
) a0 0 ()
) fun _=> some 0
def community_compare (a0:Community) (a1:Community):Option Int:= Option.bind (cmp_Compare_int a0.A a1.A) fun v1=> Option.bind (cmp_Compare_int a0.B a1.B) fun v2=> Option.bind (cmp_Or_int ([v1,v2]:List Int)) fun v3=> some v3
def community_ascends_api_Community__community_fits__community_compare (a0:List Community):Option Bool:= joinP (τ:=Unit) (fun k1=> forR (σ:=Unit) (fun _=> k1 ()
) (fun next2 (x3:Community) i4 _=> joinP (τ:=Bool) (fun k5=> Option.bind (community_fits x3) fun v6=> if (!v6) then k5 true else if (decide ((i4:Int) > 0)) then Option.bind (geti a0 (i64w ((i4:Int) - 1))) fun v7=> Option.bind (community_compare v7 x3) fun v8=> k5 (cond false true (cond true (decide (v8 ≥ 0)) false)) else k5 false
) fun v9=> if v9 then some false else next2 ()
) a0 0 ()
) fun _=> some (decide ((a0.length:Int) ≤ 64))
def community_Valid (a0:List Community):Option Bool:= Option.bind (community_ascends_api_Community__community_fits__community_compare a0) fun v1=> some v1
def slices_Compact_api_Community_api_Community (a0:List Community):Option (List Community):= if (decide ((a0.length:Int) < 2)) then some a0 else joinP (τ:=Unit) (fun k1=> whileR (σ:=Int) (fun next2 v3=> if (decide (v3 < (a0.length:Int))) then joinP (τ:=Unit) (fun k4=> Option.bind (geti a0 v3) fun v5=> Option.bind (geti a0 (i64w (v3 - 1))) fun v6=> if (Community.eqd v5 v6) then Option.bind (chk (0 ≤ v3∧v3 ≤ (a0.length:Int)∧(a0.length:Int) ≤ (a0.length:Int))) fun _=> joinP (τ:=Int×(List Community)) (fun k7=> whileR (σ:=Int×Int×(List Community)) (fun next8 (v9,v10,v11)=> if (decide (v10 < (((Int.toNat (a0.length:Int) - Int.toNat v3):Nat):Int))) then Option.bind (geti (List.take (Int.toNat (a0.length:Int) - Int.toNat v3) (List.drop (Int.toNat v3) v11)) v10) fun v12=> Option.bind (geti (List.take (Int.toNat (a0.length:Int) - Int.toNat v3) (List.drop (Int.toNat v3) v11)) (i64w (v10 - 1))) fun v13=> joinP (τ:=Int×(List Community)) (fun k14=> if (!(Community.eqd v12 v13)) then Option.bind (geti (List.take (Int.toNat (a0.length:Int) - Int.toNat v3) (List.drop (Int.toNat v3) v11)) v10) fun v15=> Option.bind (geti v11 v9) fun v16=> Option.bind (seti v11 v9 v15) fun v17=> k14 ((i64w (v9 + 1)),v17) else k14 (v9,v11)
) fun (v18,v19)=> next8 (v18,(i64w (v10 + 1)),v19) else k7 (v9,v11)
) fuel (v3,1,a0)
) fun (v20,v21)=> Option.bind (chk (0 ≤ v20∧v20 ≤ (v21.length:Int)∧(v21.length:Int) ≤ (v21.length:Int))) fun _=> Option.bind (part (List.take (Int.toNat v20) v21 ++ List.replicate (Int.toNat (v21.length:Int) - Int.toNat v20) (⟨0,0⟩:Community) ++ List.drop ((Int.toNat v20) + (Int.toNat (v21.length:Int) - Int.toNat v20)) v21) 0 v20) fun v22=> some v22 else k4 ()
) fun _=> next2 (i64w (v3 + 1)) else k1 ()
) fuel 1
) fun _=> some a0
def attribute_readCommunities_1 (a0:Community) (a1:Community):Option Int:= Option.bind (cmp_Compare_int a0.A a1.A) fun v1=> Option.bind (cmp_Compare_int a0.B a1.B) fun v2=> Option.bind (cmp_Or_int ([v1,v2]:List Int)) fun v3=> some v3
def community_fitsLarge (a0:Large):Option Bool:= Option.bind (community_within 4294967295 ([a0.A,a0.B,a0.C]:List Int)) fun v1=> some v1
def community_compareLarge (a0:Large) (a1:Large):Option Int:= Option.bind (cmp_Compare_int a0.A a1.A) fun v1=> Option.bind (cmp_Compare_int a0.B a1.B) fun v2=> Option.bind (cmp_Compare_int a0.C a1.C) fun v3=> Option.bind (cmp_Or_int ([v1,v2,v3]:List Int)) fun v4=> some v4
def community_ascends_api_Large__community_fitsLarge__community_compareLarge (a0:List Large):Option Bool:= joinP (τ:=Unit) (fun k1=> forR (σ:=Unit) (fun _=> k1 ()
) (fun next2 (x3:Large) i4 _=> joinP (τ:=Bool) (fun k5=> Option.bind (community_fitsLarge x3) fun v6=> if (!v6) then k5 true else if (decide ((i4:Int) > 0)) then Option.bind (geti a0 (i64w ((i4:Int) - 1))) fun v7=> Option.bind (community_compareLarge v7 x3) fun v8=> k5 (cond false true (cond true (decide (v8 ≥ 0)) false)) else k5 false
) fun v9=> if v9 then some false else next2 ()
) a0 0 ()
) fun _=> some (decide ((a0.length:Int) ≤ 64))
def community_ValidLarge (a0:List Large):Option Bool:= Option.bind (community_ascends_api_Large__community_fitsLarge__community_compareLarge a0) fun v1=> some v1
def slices_Compact_api_Large_api_Large (a0:List Large):Option (List Large):= if (decide ((a0.length:Int) < 2)) then some a0 else joinP (τ:=Unit) (fun k1=> whileR (σ:=Int) (fun next2 v3=> if (decide (v3 < (a0.length:Int))) then joinP (τ:=Unit) (fun k4=> Option.bind (geti a0 v3) fun v5=> Option.bind (geti a0 (i64w (v3 - 1))) fun v6=> if (Large.eqd v5 v6) then Option.bind (chk (0 ≤ v3∧v3 ≤ (a0.length:Int)∧(a0.length:Int) ≤ (a0.length:Int))) fun _=> joinP (τ:=Int×(List Large)) (fun k7=> whileR (σ:=Int×Int×(List Large)) (fun next8 (v9,v10,v11)=> if (decide (v10 < (((Int.toNat (a0.length:Int) - Int.toNat v3):Nat):Int))) then Option.bind (geti (List.take (Int.toNat (a0.length:Int) - Int.toNat v3) (List.drop (Int.toNat v3) v11)) v10) fun v12=> Option.bind (geti (List.take (Int.toNat (a0.length:Int) - Int.toNat v3) (List.drop (Int.toNat v3) v11)) (i64w (v10 - 1))) fun v13=> joinP (τ:=Int×(List Large)) (fun k14=> if (!(Large.eqd v12 v13)) then Option.bind (geti (List.take (Int.toNat (a0.length:Int) - Int.toNat v3) (List.drop (Int.toNat v3) v11)) v10) fun v15=> Option.bind (geti v11 v9) fun v16=> Option.bind (seti v11 v9 v15) fun v17=> k14 ((i64w (v9 + 1)),v17) else k14 (v9,v11)
) fun (v18,v19)=> next8 (v18,(i64w (v10 + 1)),v19) else k7 (v9,v11)
) fuel (v3,1,a0)
) fun (v20,v21)=> Option.bind (chk (0 ≤ v20∧v20 ≤ (v21.length:Int)∧(v21.length:Int) ≤ (v21.length:Int))) fun _=> Option.bind (part (List.take (Int.toNat v20) v21 ++ List.replicate (Int.toNat (v21.length:Int) - Int.toNat v20) (⟨0,0,0⟩:Large) ++ List.drop ((Int.toNat v20) + (Int.toNat (v21.length:Int) - Int.toNat v20)) v21) 0 v20) fun v22=> some v22 else k4 ()
) fun _=> next2 (i64w (v3 + 1)) else k1 ()
) fuel 1
) fun _=> some a0
def attribute_readLarge_1 (a0:Large) (a1:Large):Option Int:= Option.bind (cmp_Compare_int a0.A a1.A) fun v1=> Option.bind (cmp_Compare_int a0.B a1.B) fun v2=> Option.bind (cmp_Compare_int a0.C a1.C) fun v3=> Option.bind (cmp_Or_int ([v1,v2,v3]:List Int)) fun v4=> some v4
def attribute_within (a0:Int) (a1:Int) (a2:Int):Option Bool:= joinP (τ:=Bool) (fun k1=> if (decide (a0 ≥ a1)) then k1 (cond true (decide (a0 ≤ a2)) false) else k1 false
) fun v2=> some v2
def slices_Clone_byte_byte (a0:List UInt8):Option (List UInt8):= Option.bind (apnd (α:=UInt8) 1 ([]:List UInt8) a0) fun v1=> some v1
def attribute_Read_2 (a0:Unknown) (a1:Unknown):Option Int:= Option.bind (cmp_Compare_int a0.Type_ a1.Type_) fun v1=> some v1
def slices_IndexFunc_api_Unknown_api_Unknown__attribute_Read_1 (a0:List Unknown):Option Int:= joinP (τ:=Unit) (fun k1=> forR (σ:=Unit) (fun _=> k1 ()
) (fun next2 (x3:Unknown) i4 _=> Option.bind (attribute_Read_1 x3) fun v5=> if v5 then some (i4:Int) else next2 ()
) a0 0 ()
) fun _=> some (-1)
def slices_ContainsFunc_api_Unknown_api_Unknown__attribute_Read_1 (a0:List Unknown):Option Bool:= Option.bind (slices_IndexFunc_api_Unknown_api_Unknown__attribute_Read_1 a0) fun v1=> some (decide (v1 ≥ 0))
def attribute_Read (a0:List Unknown):Option (Attrs×Int):= Option.bind (attribute_firsts a0) fun v1=> Option.bind (slices_ContainsFunc_api_Unknown_api_Unknown__attribute_Read_1 v1) fun v2=> if v2 then some ((⟨0,[],(⟨false,(0:UInt64),(0:UInt64)⟩:Addr),0,0,0,[],[],[]⟩:Attrs),12) else joinP (τ:=Int×Bool×UInt64×UInt64×Int×Int×Int×Bool×(List Segment)×(List Community)×(List Large)) (fun k3=> joinP (τ:=Unit) (fun k4=> k4 ()
) fun _=> joinP (τ:=Int×Bool×UInt64×UInt64×Int×Int×Int×(List Segment)×(List Community)×(List Large)) (fun k5=> forR (σ:=Int×Bool×UInt64×UInt64×Int×Int×Int×(List Segment)×(List Community)×(List Large)) (fun (v6,v7,v8,v9,v10,v11,v12,v13,v14,v15)=> k5 (v6,v7,v8,v9,v10,v11,v12,v13,v14,v15)
) (fun next16 (x17:Unknown) i18 (v6,v7,v8,v9,v10,v11,v12,v13,v14,v15)=> joinP (τ:=Int×Bool×UInt64×UInt64×Int×Int×Int×(List Segment)×(List Community)×(List Large)) (fun k19=> if (x17.Type_ == 1) then joinP (τ:=Bool×Int) (fun k20=> Option.bind (attribute_right x17) fun v21=> if (!v21) then k20 (true,v6) else joinP (τ:=Bool×Int) (fun k22=> Option.bind (attribute_get x17.Data) fun v23=> joinP (τ:=Bool) (fun k24=> if ((x17.Data.length:Int) == 1) then k24 (cond true (decide (v23 ≤ 2)) false) else k24 false
) fun v25=> k22 (v25,v23)
) fun (v26,v27)=> k20 ((cond true (cond false true (!v26)) false),v27)
) fun (v28,v29)=> if v28 then k3 (0,false,(0:UInt64),(0:UInt64),0,0,0,false,[],[],[]) else k19 (v29,v7,v8,v9,v10,v11,v12,v13,v14,v15) else if (x17.Type_ == 2) then joinP (τ:=Bool×(List Segment)) (fun k30=> Option.bind (attribute_right x17) fun v31=> if (!v31) then k30 (true,v13) else joinP (τ:=Bool×(List Segment)) (fun k32=> joinP (τ:=(List Segment)) (fun k33=> Option.bind (chk (v13=[])) fun _=> whileR (σ:=(List UInt8)×(List Segment)×Nat×(List Int)) (fun next34 (v35,v36,v37,v38)=> if (decide ((v35.length:Int) > 0)) then joinP (τ:=Bool) (fun k39=> if (decide ((v35.length:Int) < 2)) then k39 true else Option.bind (geti v35 0) fun v40=> if ((v40.toNat:Int) != 1) then Option.bind (geti v35 0) fun v41=> if (cond false true (cond true ((v41.toNat:Int) != 2) false)) then k39 true else Option.bind (geti v35 1) fun v42=> if (cond false true (decide ((v35.length:Int) < (i64w (2 + (i64w (4 * (v42.toNat:Int)))))))) then k39 true else Option.bind (geti v35 1) fun v43=> k39 (cond false true ((v43.toNat:Int) == 0)) else Option.bind (geti v35 1) fun v44=> if (cond false true (decide ((v35.length:Int) < (i64w (2 + (i64w (4 * (v44.toNat:Int)))))))) then k39 true else Option.bind (geti v35 1) fun v45=> k39 (cond false true ((v45.toNat:Int) == 0))
) fun v46=> if v46 then k32 (false,v36) else Option.bind (geti v35 1) fun v47=> Option.bind (geti v35 0) fun v48=> Option.bind (part v35 2 (i64w (2 + (i64w (4 * (v47.toNat:Int)))))) fun v49=> Option.bind (attribute_numbers v49) fun v50=> Option.bind (part v35 (i64w (2 + (i64w (4 * (v47.toNat:Int))))) (v35.length:Int)) fun v51=> joinP (τ:=(List Int)) (fun k52=> if ((v48.toNat:Int) == 1) then Option.bind (sortI v50) fun v53=> Option.bind (slices_Compact_int_int v53) fun v54=> k52 v54 else k52 v50
) fun v55=> joinP (τ:=Bool) (fun k56=> if (decide ((i64w ((v36.length:Int) - 1)) ≥ 0)) then if (cond true (!((v48.toNat:Int) == 1)) false) then Option.bind (geti v36 (i64w ((v36.length:Int) - 1))) fun v57=> k56 (cond true (!v57.Set) false) else k56 false else k56 false
) fun v58=> joinP (τ:=(List Segment)×Nat×(List Int)) (fun k59=> if v58 then Option.bind (geti v36 (i64w ((v36.length:Int) - 1))) fun v60=> Option.bind (chk (Int.toNat (i64w ((v36.length:Int) - 1))=v37)) fun _=> Option.bind (apnd (α:=Int) 8 v38 v55) fun v61=> Option.bind (geti v36 (i64w ((v36.length:Int) - 1))) fun v62=> Option.bind (seti v36 (i64w ((v36.length:Int) - 1)) (⟨v62.Set,v61⟩:Segment)) fun v63=> k59 (v63,(Int.toNat (i64w ((v36.length:Int) - 1))),v61) else Option.bind (apnd (α:=Segment) 32 v36 ([(⟨((v48.toNat:Int) == 1),v55⟩:Segment)]:List Segment)) fun v64=> k59 (v64,((List.map Segment.toD v36).length + 0),v55)
) fun (v65,v66,v67)=> next34 (v51,v65,v66,v67) else k33 v36
) fuel (x17.Data,v13,0,[])
) fun v68=> Option.bind (aspath_Valid v68) fun v69=> k32 (v69,v68)
) fun (v70,v71)=> k30 ((cond true (cond false true (!v70)) false),v71)
) fun (v72,v73)=> if v72 then k3 (0,false,(0:UInt64),(0:UInt64),0,0,0,false,[],[],[]) else k19 (v6,v7,v8,v9,v10,v11,v12,v73,v14,v15) else if (x17.Type_ == 3) then joinP (τ:=Bool×Bool×UInt64×UInt64) (fun k74=> Option.bind (attribute_right x17) fun v75=> if (!v75) then k74 (true,v7,v8,v9) else joinP (τ:=Bool×UInt64×UInt64) (fun k76=> Option.bind (addr_FromBytes x17.Data) fun (v77,v78)=> k76 (v77.V6,v77.Hi,v77.Lo)
) fun (v79,v80,v81)=> k74 ((cond true (cond false true (!((x17.Data.length:Int) == 4))) false),v79,v80,v81)
) fun (v82,v83,v84,v85)=> if v82 then k3 (0,false,(0:UInt64),(0:UInt64),0,0,0,false,[],[],[]) else k19 (v6,v83,v84,v85,v10,v11,v12,v13,v14,v15) else if (x17.Type_ == 4) then joinP (τ:=Bool×Int) (fun k86=> Option.bind (attribute_right x17) fun v87=> if (!v87) then k86 (true,v10) else joinP (τ:=Int) (fun k88=> joinP (τ:=Int) (fun k89=> Option.bind (attribute_get x17.Data) fun v90=> k89 v90
) fun v91=> k88 v91
) fun v92=> k86 ((cond true (cond false true (!((x17.Data.length:Int) == 4))) false),v92)
) fun (v93,v94)=> if v93 then k3 (0,false,(0:UInt64),(0:UInt64),0,0,0,false,[],[],[]) else k19 (v6,v7,v8,v9,v94,v11,v12,v13,v14,v15) else if (x17.Type_ == 5) then joinP (τ:=Bool×Int) (fun k95=> Option.bind (attribute_right x17) fun v96=> if (!v96) then k95 (true,v11) else joinP (τ:=Int) (fun k97=> joinP (τ:=Int) (fun k98=> Option.bind (attribute_get x17.Data) fun v99=> k98 v99
) fun v100=> k97 v100
) fun v101=> k95 ((cond true (cond false true (!((x17.Data.length:Int) == 4))) false),v101)
) fun (v102,v103)=> if v102 then k3 (0,false,(0:UInt64),(0:UInt64),0,0,0,false,[],[],[]) else k19 (v6,v7,v8,v9,v10,v103,v12,v13,v14,v15) else if (x17.Type_ == 8) then joinP (τ:=Bool×(List Community)) (fun k104=> Option.bind (attribute_right x17) fun v105=> if (!v105) then k104 (true,v14) else joinP (τ:=Bool×(List Community)) (fun k106=> Option.bind (attribute_numbers x17.Data) fun v107=> joinP (τ:=(List Community)) (fun k108=> forR (σ:=(List Community)) (fun v109=> k108 v109
) (fun next110 (x111:Int) i112 v109=> Option.bind (apnd (α:=Community) 16 v109 ([(⟨(Int.fdiv x111 (2 ^ (min (Int.toNat 16) 64))),(i64w ((BitVec.ofInt 64 x111 &&& BitVec.ofInt 64 65535).toNat:Int))⟩:Community)]:List Community)) fun v113=> next110 v113
) v107 0 []
) fun v114=> joinP (τ:=Bool×(List Community)) (fun k115=> joinP (τ:=Bool) (fun k116=> if (decide ((v114.length:Int) > 0)) then k116 (cond true (decide ((v114.length:Int) ≤ 64)) false) else k116 false
) fun v117=> Option.bind (sortF attribute_readCommunities_1 v114) fun v118=> Option.bind (slices_Compact_api_Community_api_Community v118) fun v119=> k115 (v117,v119)
) fun (v120,v121)=> joinP (τ:=Bool) (fun k122=> if v120 then if (cond true ((Int.tmod (x17.Data.length:Int) 4) == 0) false) then Option.bind (community_Valid v121) fun v123=> k122 (cond true v123 false) else k122 false else k122 false
) fun v124=> k106 (v124,v121)
) fun (v125,v126)=> k104 ((cond true (cond false true (!v125)) false),v126)
) fun (v127,v128)=> if v127 then k3 (0,false,(0:UInt64),(0:UInt64),0,0,0,false,[],[],[]) else k19 (v6,v7,v8,v9,v10,v11,v12,v13,v128,v15) else if (x17.Type_ == 32) then joinP (τ:=Bool×(List Large)) (fun k129=> Option.bind (attribute_right x17) fun v130=> if (!v130) then k129 (true,v15) else joinP (τ:=Bool×(List Large)) (fun k131=> if ((Int.tmod (x17.Data.length:Int) 12) != 0) then k131 (false,v15) else Option.bind (attribute_numbers x17.Data) fun v132=> joinP (τ:=(List Large)) (fun k133=> whileR (σ:=(List Large)×(List Int)) (fun next134 (v135,v136)=> if (decide ((v136.length:Int) > 0)) then Option.bind (geti v136 0) fun v137=> Option.bind (geti v136 1) fun v138=> Option.bind (geti v136 2) fun v139=> Option.bind (apnd (α:=Large) 24 v135 ([(⟨v137,v138,v139⟩:Large)]:List Large)) fun v140=> Option.bind (part v136 3 (v136.length:Int)) fun v141=> next134 (v140,v141) else k133 v135
) fuel ([],v132)
) fun v142=> joinP (τ:=Bool×(List Large)) (fun k143=> joinP (τ:=Bool) (fun k144=> if (decide ((v142.length:Int) > 0)) then k144 (cond true (decide ((v142.length:Int) ≤ 64)) false) else k144 false
) fun v145=> Option.bind (sortF attribute_readLarge_1 v142) fun v146=> Option.bind (slices_Compact_api_Large_api_Large v146) fun v147=> k143 (v145,v147)
) fun (v148,v149)=> joinP (τ:=Bool) (fun k150=> if v148 then Option.bind (community_ValidLarge v149) fun v151=> k150 (cond true v151 false) else k150 false
) fun v152=> k131 (v152,v149)
) fun (v153,v154)=> k129 ((cond true (cond false true (!v153)) false),v154)
) fun (v155,v156)=> if v155 then k3 (0,false,(0:UInt64),(0:UInt64),0,0,0,false,[],[],[]) else k19 (v6,v7,v8,v9,v10,v11,v12,v13,v14,v156) else if (x17.Type_ == 35) then joinP (τ:=Bool×Int) (fun k157=> Option.bind (attribute_right x17) fun v158=> if (!v158) then k157 (true,v12) else joinP (τ:=Bool×Int) (fun k159=> joinP (τ:=Bool×Int) (fun k160=> joinP (τ:=Int) (fun k161=> Option.bind (attribute_get x17.Data) fun v162=> k161 v162
) fun v163=> if ((x17.Data.length:Int) == 4) then Option.bind (aspath_Number v163) fun v164=> k160 ((cond true v164 false),v163) else k160 (false,v163)
) fun (v165,v166)=> k159 (v165,v166)
) fun (v167,v168)=> k157 ((cond true (cond false true (!v167)) false),v168)
) fun (v169,v170)=> if v169 then k3 (0,false,(0:UInt64),(0:UInt64),0,0,0,false,[],[],[]) else k19 (v6,v7,v8,v9,v10,v11,v170,v13,v14,v15) else k19 (v6,v7,v8,v9,v10,v11,v12,v13,v14,v15)
) fun (v171,v172,v173,v174,v175,v176,v177,v178,v179,v180)=> next16 (v171,v172,v173,v174,v175,v176,v177,v178,v179,v180)
) v1 0 ((-1),false,(0:UInt64),(0:UInt64),(-1),(-1),(-1),[],[],[])
) fun (v181,v182,v183,v184,v185,v186,v187,v188,v189,v190)=> k3 (v181,v182,v183,v184,v185,v186,v187,true,v188,v189,v190)
) fun (v191,v192,v193,v194,v195,v196,v197,v198,v199,v200,v201)=> if (!v198) then some ((⟨0,[],(⟨false,(0:UInt64),(0:UInt64)⟩:Addr),0,0,0,[],[],[]⟩:Attrs),13) else joinP (τ:=(List Unknown)) (fun k202=> forR (σ:=(List Unknown)) (fun v203=> k202 v203
) (fun next204 (x205:Unknown) i206 v203=> joinP (τ:=Bool) (fun k207=> Option.bind (attribute_unknown x205.Type_) fun v208=> if v208 then Option.bind (attribute_within x205.Type_ 1 255) fun v209=> if (cond true v209 false) then if (cond true ((i64w ((BitVec.ofInt 64 x205.Flags &&& BitVec.ofInt 64 64).toNat:Int)) != 0) false) then k207 (cond true (decide ((x205.Data.length:Int) ≤ 255)) false) else k207 false else k207 false else k207 false
) fun v210=> joinP (τ:=(List Unknown)) (fun k211=> if v210 then Option.bind (slices_Clone_byte_byte x205.Data) fun v212=> Option.bind (apnd (α:=Unknown) 40 v203 ([(⟨224,x205.Type_,v212⟩:Unknown)]:List Unknown)) fun v213=> k211 v213 else k211 v203
) fun v214=> next204 v214
) v1 0 []
) fun v215=> if (decide ((v215.length:Int) > 8)) then some ((⟨0,[],(⟨false,(0:UInt64),(0:UInt64)⟩:Addr),0,0,0,[],[],[]⟩:Attrs),3) else Option.bind (sortF attribute_Read_2 v215) fun v216=> some ((⟨v191,v199,(⟨v192,v193,v194⟩:Addr),v195,v196,v197,v200,v201,v216⟩:Attrs),0)
def ref18_first (a0:List Unknown):Option (List Unknown):= joinP (τ:=(List Unknown)) (fun k1=> forR (σ:=(List Unknown)×(List (Int×Bool))) (fun (v2,v3)=> k1 v2
) (fun next4 (x5:Unknown) i6 (v2,v3)=> Option.bind (some (Option.getD (mget v3 x5.Type_) false)) fun v7=> joinP (τ:=(List Unknown)) (fun k8=> if (!v7) then Option.bind (apnd (α:=Unknown) 40 v2 ([x5]:List Unknown)) fun v9=> k8 v9 else k8 v2
) fun v10=> next4 (v10,(mset v3 x5.Type_ true))
) a0 0 ([],[])
) fun v11=> some v11
def ref18_number (a0:List UInt8):Option Int:= joinP (τ:=Int) (fun k1=> forR (σ:=Int) (fun v2=> k1 v2
) (fun next3 (x4:UInt8) i5 v2=> next3 (i64w ((BitVec.ofInt 64 (i64w (v2 * (2 ^ (min (Int.toNat 8) 64)))) ||| BitVec.ofInt 64 (x4.toNat:Int)).toNat:Int))
) a0 0 0
) fun v6=> some v6
def ref18_sorted (a0:List Int):Option (List Int):= joinP (τ:=(List Int)) (fun k1=> forR (σ:=(List Int)) (fun v2=> k1 v2
) (fun next3 (x4:Int) i5 v2=> joinP (τ:=(List Int)) (fun k6=> joinP (τ:=Int) (fun k7=> whileR (σ:=Int) (fun next8 v9=> joinP (τ:=Bool) (fun k10=> if (decide (v9 < (v2.length:Int))) then Option.bind (geti v2 v9) fun v11=> k10 (cond true (decide (v11 < x4)) false) else k10 false
) fun v12=> if v12 then next8 (i64w (v9 + 1)) else k7 v9
) fuel 0
) fun v13=> joinP (τ:=Bool) (fun k14=> if (decide (v13 < (v2.length:Int))) then Option.bind (geti v2 v13) fun v15=> k14 (cond true (v15 == x4) false) else k14 false
) fun v16=> if v16 then k6 v2 else Option.bind (chk (0 ≤ (0:Int)∧(0:Int) ≤ v13∧v13 ≤ (v2.length:Int))) fun _=> Option.bind (apnd (α:=Int) 8 [] (List.take (Int.toNat v13 - Int.toNat 0) (List.drop (Int.toNat 0) v2))) fun _=> Option.bind (apnd (α:=Int) 8 (List.take (Int.toNat v13 - Int.toNat 0) (List.drop (Int.toNat 0) v2)) ([x4]:List Int)) fun v17=> Option.bind (chk (0 ≤ v13∧v13 ≤ (v2.length:Int)∧(v2.length:Int) ≤ (v2.length:Int))) fun _=> Option.bind (apnd (α:=Int) 8 v17 (List.take (Int.toNat (v2.length:Int) - Int.toNat v13) (List.drop (Int.toNat v13) v2))) fun v18=> k6 v18
) fun v19=> next3 v19
) a0 0 []
) fun v20=> some v20
def ref18_path (a0:List UInt8):Option ((List Segment)×Bool):= joinP (τ:=(List Segment)×Nat×(List Int)) (fun k1=> whileR (σ:=(List UInt8)×(List Segment)×Nat×(List Int)) (fun next2 (v3,v4,v5,v6)=> if (decide ((v3.length:Int) > 0)) then joinP (τ:=(List UInt8)×(List Segment)×Nat×(List Int)) (fun k7=> joinP (τ:=Bool) (fun k8=> if (decide ((v3.length:Int) < 2)) then k8 true else Option.bind (geti v3 0) fun v9=> if ((v9.toNat:Int) != 1) then Option.bind (geti v3 0) fun v10=> if (cond false true (cond true ((v10.toNat:Int) != 2) false)) then k8 true else Option.bind (geti v3 1) fun v11=> if (cond false true ((v11.toNat:Int) == 0)) then k8 true else Option.bind (geti v3 1) fun v12=> k8 (cond false true (decide ((v3.length:Int) < (i64w (2 + (i64w (4 * (v12.toNat:Int)))))))) else Option.bind (geti v3 1) fun v13=> if (cond false true ((v13.toNat:Int) == 0)) then k8 true else Option.bind (geti v3 1) fun v14=> k8 (cond false true (decide ((v3.length:Int) < (i64w (2 + (i64w (4 * (v14.toNat:Int))))))))
) fun v15=> if v15 then some ([],false) else Option.bind (geti v3 1) fun v16=> joinP (τ:=(List Int)) (fun k17=> whileR (σ:=Int×(List Int)) (fun next18 (v19,v20)=> if (decide (v19 < (v16.toNat:Int))) then Option.bind (part v3 (i64w (2 + (i64w (4 * v19)))) (i64w (6 + (i64w (4 * v19))))) fun v21=> Option.bind (ref18_number v21) fun v22=> Option.bind (apnd (α:=Int) 8 v20 ([v22]:List Int)) fun v23=> next18 ((i64w (v19 + 1)),v23) else k17 v20
) fuel (0,[])
) fun v24=> Option.bind (geti v3 0) fun v25=> joinP (τ:=(List Segment)×Nat×(List Int)) (fun k26=> if ((v25.toNat:Int) == 1) then Option.bind (ref18_sorted v24) fun v27=> Option.bind (apnd (α:=Segment) 32 v4 ([(⟨true,v27⟩:Segment)]:List Segment)) fun v28=> k26 (v28,((List.map Segment.toD v4).length + 0),v27) else joinP (τ:=Bool) (fun k29=> if (decide ((v4.length:Int) > 0)) then Option.bind (geti v4 (i64w ((v4.length:Int) - 1))) fun v30=> k29 (cond true (!v30.Set) false) else k29 false
) fun v31=> joinP (τ:=(List Segment)×Nat×(List Int)) (fun k32=> if v31 then Option.bind (geti v4 (i64w ((v4.length:Int) - 1))) fun v33=> Option.bind (chk (Int.toNat (i64w ((v4.length:Int) - 1))=v5)) fun _=> Option.bind (apnd (α:=Int) 8 v6 v24) fun v34=> Option.bind (geti v4 (i64w ((v4.length:Int) - 1))) fun v35=> Option.bind (seti v4 (i64w ((v4.length:Int) - 1)) (⟨v35.Set,v34⟩:Segment)) fun v36=> k32 (v36,(Int.toNat (i64w ((v4.length:Int) - 1))),v34) else Option.bind (apnd (α:=Segment) 32 v4 ([(⟨false,v24⟩:Segment)]:List Segment)) fun v37=> k32 (v37,((List.map Segment.toD v4).length + 0),v24)
) fun (v38,v39,v40)=> k26 (v38,v39,v40)
) fun (v41,v42,v43)=> Option.bind (geti v3 1) fun v44=> Option.bind (part v3 (i64w (2 + (i64w (4 * (v44.toNat:Int))))) (v3.length:Int)) fun v45=> k7 (v45,v41,v42,v43)
) fun (v46,v47,v48,v49)=> next2 (v46,v47,v48,v49) else k1 (v4,v5,v6)
) fuel (a0,[],0,[])
) fun (v50,v51,v52)=> Option.bind (ref15_Valid v50) fun v53=> some (v50,v53)
def ref01_FromBytes (a0:List UInt8):Option (Addr×Int):= joinP (τ:=Bool) (fun k1=> if ((a0.length:Int) != 4) then k1 (cond true ((a0.length:Int) != 16) false) else k1 false
) fun v2=> if v2 then some ((⟨false,(0:UInt64),(0:UInt64)⟩:Addr),1) else joinP (τ:=Addr) (fun k3=> forR (σ:=Addr) (fun v4=> k3 v4
) (fun next5 (x6:UInt8) i7 v4=> next5 (⟨v4.V6,(toU64 ((BitVec.ofInt 64 ((toU64 ((v4.Hi.toNat:Int) * (2 ^ (min (Int.toNat 8) 64)))).toNat:Int) ||| BitVec.ofInt 64 ((toU64 (Int.fdiv (v4.Lo.toNat:Int) (2 ^ (min (Int.toNat 56) 64)))).toNat:Int)).toNat:Int)),(toU64 ((BitVec.ofInt 64 ((toU64 ((v4.Lo.toNat:Int) * (2 ^ (min (Int.toNat 8) 64)))).toNat:Int) ||| BitVec.ofInt 64 ((toU64 (x6.toNat:Int)).toNat:Int)).toNat:Int))⟩:Addr)
) a0 0 (⟨((a0.length:Int) == 16),(0:UInt64),(0:UInt64)⟩:Addr)
) fun v8=> some (v8,0)
def ref18_Read (a0:List Unknown):Option (Attrs×Int):= Option.bind (ref18_first a0) fun v1=> joinP (τ:=Unit) (fun k2=> forR (σ:=Unit) (fun _=> k2 ()
) (fun next3 (x4:Unknown) i5 _=> joinP (τ:=Bool) (fun k6=> Option.bind (ref18_unknown x4.Type_) fun v7=> if v7 then k6 (cond true ((i64w ((BitVec.ofInt 64 x4.Flags &&& BitVec.ofInt 64 128).toNat:Int)) == 0) false) else k6 false
) fun v8=> if v8 then some ((⟨0,[],(⟨false,(0:UInt64),(0:UInt64)⟩:Addr),0,0,0,[],[],[]⟩:Attrs),12) else next3 ()
) v1 0 ()
) fun _=> joinP (τ:=Unit) (fun k9=> k9 ()
) fun _=> joinP (τ:=Int×(List Segment)×Bool×UInt64×UInt64×Int×Int×Int×(List Community)×(List Large)) (fun k10=> forR (σ:=Int×(List Segment)×Bool×UInt64×UInt64×Int×Int×Int×(List Community)×(List Large)) (fun (v11,v12,v13,v14,v15,v16,v17,v18,v19,v20)=> k10 (v11,v12,v13,v14,v15,v16,v17,v18,v19,v20)
) (fun next21 (x22:Unknown) i23 (v11,v12,v13,v14,v15,v16,v17,v18,v19,v20)=> joinP (τ:=Int×(List Segment)×Bool×UInt64×UInt64×Int×Int×Int×(List Community)×(List Large)) (fun k24=> Option.bind (ref18_flags x22.Type_) fun v25=> if (v25 == 0) then k24 (v11,v12,v13,v14,v15,v16,v17,v18,v19,v20) else joinP (τ:=Bool×Int×(List Segment)×Bool×UInt64×UInt64×Int×Int×Int×(List Community)×(List Large)) (fun k26=> if ((i64w ((BitVec.ofInt 64 x22.Flags &&& BitVec.ofInt 64 192).toNat:Int)) != v25) then k26 (true,v11,v12,v13,v14,v15,v16,v17,v18,v19,v20) else if (v25 != 192) then if (cond false true (cond true ((i64w ((BitVec.ofInt 64 x22.Flags &&& BitVec.ofInt 64 32).toNat:Int)) != 0) false)) then k26 (true,v11,v12,v13,v14,v15,v16,v17,v18,v19,v20) else joinP (τ:=Bool×Int×(List Segment)×Bool×UInt64×UInt64×Int×Int×Int×(List Community)×(List Large)) (fun k27=> joinP (τ:=Int×Bool×UInt64×UInt64×Int×Int×Int×(List Community)×(List Large)) (fun k28=> joinP (τ:=Int×Bool×UInt64×UInt64×Int×Int×Int×(List Community)×(List Large)) (fun k29=> if (x22.Type_ == 1) then joinP (τ:=Bool) (fun k30=> if ((x22.Data.length:Int) != 1) then k30 true else Option.bind (geti x22.Data 0) fun v31=> k30 (cond false true (decide ((v31.toNat:Int) > 2)))
) fun v32=> if v32 then k27 (false,v11,v12,v13,v14,v15,v16,v17,v18,v19,v20) else Option.bind (geti x22.Data 0) fun v33=> k29 ((v33.toNat:Int),v13,v14,v15,v16,v17,v18,v19,v20) else if (x22.Type_ == 2) then Option.bind (ref18_path x22.Data) fun (v34,v35)=> k27 (v35,v11,v34,v13,v14,v15,v16,v17,v18,v19,v20) else joinP (τ:=Bool×UInt64×UInt64×Int×Int×Int×(List Community)×(List Large)) (fun k36=> if (x22.Type_ == 3) then if ((x22.Data.length:Int) != 4) then k27 (false,v11,v12,v13,v14,v15,v16,v17,v18,v19,v20) else Option.bind (ref01_FromBytes x22.Data) fun (v37,v38)=> k36 (v37.V6,v37.Hi,v37.Lo,v16,v17,v18,v19,v20) else joinP (τ:=Bool) (fun k39=> if (x22.Type_ == 4) then k39 (x22.Type_ == 4) else joinP (τ:=Bool) (fun k40=> if (x22.Type_ == 5) then k40 (x22.Type_ == 5) else k40 (x22.Type_ == 35)
) fun v41=> k39 v41
) fun v42=> joinP (τ:=Int×Int×Int×(List Community)×(List Large)) (fun k43=> if v42 then Option.bind (part x22.Data 0 (if (4:Int) < (x22.Data.length:Int) then 4 else (x22.Data.length:Int))) fun v44=> Option.bind (ref18_number v44) fun v45=> joinP (τ:=Bool) (fun k46=> if ((x22.Data.length:Int) != 4) then k46 true else if (x22.Type_ == 35) then k46 (cond false true (cond true (v45 == 0) false)) else k46 false
) fun v47=> if v47 then k27 (false,v11,v12,v13,v14,v15,v16,v17,v18,v19,v20) else joinP (τ:=Int×Int×Int) (fun k48=> if (x22.Type_ == 4) then k48 (v45,v17,v18) else joinP (τ:=Int×Int) (fun k49=> if (x22.Type_ == 5) then k49 (v45,v18) else k49 (v17,v45)
) fun (v50,v51)=> k48 (v16,v50,v51)
) fun (v52,v53,v54)=> k43 (v52,v53,v54,v19,v20) else joinP (τ:=(List Community)×(List Large)) (fun k55=> if (x22.Type_ == 8) then joinP (τ:=Bool) (fun k56=> if ((x22.Data.length:Int) == 0) then k56 true else if (cond false true ((Int.tmod (x22.Data.length:Int) 4) != 0)) then k56 true else k56 (cond false true (decide ((i64w (Int.tdiv (x22.Data.length:Int) 4)) > 64)))
) fun v57=> if v57 then k27 (false,v11,v12,v13,v14,v15,v16,v17,v18,v19,v20) else joinP (τ:=(List Community)) (fun k58=> whileR (σ:=Int×(List Community)) (fun next59 (v60,v61)=> if (decide (v60 < (x22.Data.length:Int))) then Option.bind (part x22.Data v60 (i64w (v60 + 2))) fun v62=> Option.bind (ref18_number v62) fun v63=> Option.bind (part x22.Data (i64w (v60 + 2)) (i64w (v60 + 4))) fun v64=> Option.bind (ref18_number v64) fun v65=> Option.bind (ref17_Add v61 (⟨v63,v65⟩:Community)) fun (v66,v67)=> next59 ((i64w (v60 + 4)),v66) else k58 v61
) fuel (0,v19)
) fun v68=> k55 (v68,v20) else joinP (τ:=(List Large)) (fun k69=> if (x22.Type_ == 32) then joinP (τ:=Bool) (fun k70=> if ((x22.Data.length:Int) == 0) then k70 true else if (cond false true ((Int.tmod (x22.Data.length:Int) 12) != 0)) then k70 true else k70 (cond false true (decide ((i64w (Int.tdiv (x22.Data.length:Int) 12)) > 64)))
) fun v71=> if v71 then k27 (false,v11,v12,v13,v14,v15,v16,v17,v18,v19,v20) else joinP (τ:=(List Large)) (fun k72=> whileR (σ:=Int×(List Large)) (fun next73 (v74,v75)=> if (decide (v74 < (x22.Data.length:Int))) then Option.bind (part x22.Data v74 (i64w (v74 + 4))) fun v76=> Option.bind (ref18_number v76) fun v77=> Option.bind (part x22.Data (i64w (v74 + 4)) (i64w (v74 + 8))) fun v78=> Option.bind (ref18_number v78) fun v79=> Option.bind (part x22.Data (i64w (v74 + 8)) (i64w (v74 + 12))) fun v80=> Option.bind (ref18_number v80) fun v81=> Option.bind (ref17_AddLarge v75 (⟨v77,v79,v81⟩:Large)) fun (v82,v83)=> next73 ((i64w (v74 + 12)),v82) else k72 v75
) fuel (0,v20)
) fun v84=> k69 v84 else k69 v20
) fun v85=> k55 (v19,v85)
) fun (v86,v87)=> k43 (v16,v17,v18,v86,v87)
) fun (v88,v89,v90,v91,v92)=> k36 (v13,v14,v15,v88,v89,v90,v91,v92)
) fun (v93,v94,v95,v96,v97,v98,v99,v100)=> k29 (v11,v93,v94,v95,v96,v97,v98,v99,v100)
) fun (v101,v102,v103,v104,v105,v106,v107,v108,v109)=> k28 (v101,v102,v103,v104,v105,v106,v107,v108,v109)
) fun (v110,v111,v112,v113,v114,v115,v116,v117,v118)=> k27 (true,v110,v12,v111,v112,v113,v114,v115,v116,v117,v118)
) fun (v119,v120,v121,v122,v123,v124,v125,v126,v127,v128,v129)=> k26 ((cond false true (!v119)),v120,v121,v122,v123,v124,v125,v126,v127,v128,v129) else joinP (τ:=Bool×Int×(List Segment)×Bool×UInt64×UInt64×Int×Int×Int×(List Community)×(List Large)) (fun k130=> joinP (τ:=Int×Bool×UInt64×UInt64×Int×Int×Int×(List Community)×(List Large)) (fun k131=> joinP (τ:=Int×Bool×UInt64×UInt64×Int×Int×Int×(List Community)×(List Large)) (fun k132=> if (x22.Type_ == 1) then joinP (τ:=Bool) (fun k133=> if ((x22.Data.length:Int) != 1) then k133 true else Option.bind (geti x22.Data 0) fun v134=> k133 (cond false true (decide ((v134.toNat:Int) > 2)))
) fun v135=> if v135 then k130 (false,v11,v12,v13,v14,v15,v16,v17,v18,v19,v20) else Option.bind (geti x22.Data 0) fun v136=> k132 ((v136.toNat:Int),v13,v14,v15,v16,v17,v18,v19,v20) else if (x22.Type_ == 2) then Option.bind (ref18_path x22.Data) fun (v137,v138)=> k130 (v138,v11,v137,v13,v14,v15,v16,v17,v18,v19,v20) else joinP (τ:=Bool×UInt64×UInt64×Int×Int×Int×(List Community)×(List Large)) (fun k139=> if (x22.Type_ == 3) then if ((x22.Data.length:Int) != 4) then k130 (false,v11,v12,v13,v14,v15,v16,v17,v18,v19,v20) else Option.bind (ref01_FromBytes x22.Data) fun (v140,v141)=> k139 (v140.V6,v140.Hi,v140.Lo,v16,v17,v18,v19,v20) else joinP (τ:=Bool) (fun k142=> if (x22.Type_ == 4) then k142 (x22.Type_ == 4) else joinP (τ:=Bool) (fun k143=> if (x22.Type_ == 5) then k143 (x22.Type_ == 5) else k143 (x22.Type_ == 35)
) fun v144=> k142 v144
) fun v145=> joinP (τ:=Int×Int×Int×(List Community)×(List Large)) (fun k146=> if v145 then Option.bind (part x22.Data 0 (if (4:Int) < (x22.Data.length:Int) then 4 else (x22.Data.length:Int))) fun v147=> Option.bind (ref18_number v147) fun v148=> joinP (τ:=Bool) (fun k149=> if ((x22.Data.length:Int) != 4) then k149 true else if (x22.Type_ == 35) then k149 (cond false true (cond true (v148 == 0) false)) else k149 false
) fun v150=> if v150 then k130 (false,v11,v12,v13,v14,v15,v16,v17,v18,v19,v20) else joinP (τ:=Int×Int×Int) (fun k151=> if (x22.Type_ == 4) then k151 (v148,v17,v18) else joinP (τ:=Int×Int) (fun k152=> if (x22.Type_ == 5) then k152 (v148,v18) else k152 (v17,v148)
) fun (v153,v154)=> k151 (v16,v153,v154)
) fun (v155,v156,v157)=> k146 (v155,v156,v157,v19,v20) else joinP (τ:=(List Community)×(List Large)) (fun k158=> if (x22.Type_ == 8) then joinP (τ:=Bool) (fun k159=> if ((x22.Data.length:Int) == 0) then k159 true else if (cond false true ((Int.tmod (x22.Data.length:Int) 4) != 0)) then k159 true else k159 (cond false true (decide ((i64w (Int.tdiv (x22.Data.length:Int) 4)) > 64)))
) fun v160=> if v160 then k130 (false,v11,v12,v13,v14,v15,v16,v17,v18,v19,v20) else joinP (τ:=(List Community)) (fun k161=> whileR (σ:=Int×(List Community)) (fun next162 (v163,v164)=> if (decide (v163 < (x22.Data.length:Int))) then Option.bind (part x22.Data v163 (i64w (v163 + 2))) fun v165=> Option.bind (ref18_number v165) fun v166=> Option.bind (part x22.Data (i64w (v163 + 2)) (i64w (v163 + 4))) fun v167=> Option.bind (ref18_number v167) fun v168=> Option.bind (ref17_Add v164 (⟨v166,v168⟩:Community)) fun (v169,v170)=> next162 ((i64w (v163 + 4)),v169) else k161 v164
) fuel (0,v19)
) fun v171=> k158 (v171,v20) else joinP (τ:=(List Large)) (fun k172=> if (x22.Type_ == 32) then joinP (τ:=Bool) (fun k173=> if ((x22.Data.length:Int) == 0) then k173 true else if (cond false true ((Int.tmod (x22.Data.length:Int) 12) != 0)) then k173 true else k173 (cond false true (decide ((i64w (Int.tdiv (x22.Data.length:Int) 12)) > 64)))
) fun v174=> if v174 then k130 (false,v11,v12,v13,v14,v15,v16,v17,v18,v19,v20) else joinP (τ:=(List Large)) (fun k175=> whileR (σ:=Int×(List Large)) (fun next176 (v177,v178)=> if (decide (v177 < (x22.Data.length:Int))) then Option.bind (part x22.Data v177 (i64w (v177 + 4))) fun v179=> Option.bind (ref18_number v179) fun v180=> Option.bind (part x22.Data (i64w (v177 + 4)) (i64w (v177 + 8))) fun v181=> Option.bind (ref18_number v181) fun v182=> Option.bind (part x22.Data (i64w (v177 + 8)) (i64w (v177 + 12))) fun v183=> Option.bind (ref18_number v183) fun v184=> Option.bind (ref17_AddLarge v178 (⟨v180,v182,v184⟩:Large)) fun (v185,v186)=> next176 ((i64w (v177 + 12)),v185) else k175 v178
) fuel (0,v20)
) fun v187=> k172 v187 else k172 v20
) fun v188=> k158 (v19,v188)
) fun (v189,v190)=> k146 (v16,v17,v18,v189,v190)
) fun (v191,v192,v193,v194,v195)=> k139 (v13,v14,v15,v191,v192,v193,v194,v195)
) fun (v196,v197,v198,v199,v200,v201,v202,v203)=> k132 (v11,v196,v197,v198,v199,v200,v201,v202,v203)
) fun (v204,v205,v206,v207,v208,v209,v210,v211,v212)=> k131 (v204,v205,v206,v207,v208,v209,v210,v211,v212)
) fun (v213,v214,v215,v216,v217,v218,v219,v220,v221)=> k130 (true,v213,v12,v214,v215,v216,v217,v218,v219,v220,v221)
) fun (v222,v223,v224,v225,v226,v227,v228,v229,v230,v231,v232)=> k26 ((cond false true (!v222)),v223,v224,v225,v226,v227,v228,v229,v230,v231,v232)
) fun (v233,v234,v235,v236,v237,v238,v239,v240,v241,v242,v243)=> if v233 then some ((⟨0,[],(⟨false,(0:UInt64),(0:UInt64)⟩:Addr),0,0,0,[],[],[]⟩:Attrs),13) else k24 (v234,v235,v236,v237,v238,v239,v240,v241,v242,v243)
) fun (v244,v245,v246,v247,v248,v249,v250,v251,v252,v253)=> next21 (v244,v245,v246,v247,v248,v249,v250,v251,v252,v253)
) v1 0 ((-1),[],false,(0:UInt64),(0:UInt64),(-1),(-1),(-1),[],[])
) fun (v254,v255,v256,v257,v258,v259,v260,v261,v262,v263)=> joinP (τ:=(List Unknown)) (fun k264=> whileR (σ:=Int×(List Unknown)) (fun next265 (v266,v267)=> if (decide (v266 < 256)) then joinP (τ:=(List Unknown)) (fun k268=> joinP (τ:=(List Unknown)) (fun k269=> forR (σ:=(List Unknown)) (fun v270=> k269 v270
) (fun next271 (x272:Unknown) i273 v270=> joinP (τ:=Bool) (fun k274=> if (x272.Type_ == v266) then Option.bind (ref18_unknown v266) fun v275=> if (cond true v275 false) then if (cond true ((i64w ((BitVec.ofInt 64 x272.Flags &&& BitVec.ofInt 64 64).toNat:Int)) != 0) false) then k274 (cond true (decide ((x272.Data.length:Int) ≤ 255)) false) else k274 false else k274 false else k274 false
) fun v276=> joinP (τ:=(List Unknown)) (fun k277=> if v276 then Option.bind (apnd (α:=UInt8) 1 [] x272.Data) fun _=> Option.bind (apnd (α:=Unknown) 40 v270 ([(⟨224,v266,x272.Data⟩:Unknown)]:List Unknown)) fun v278=> k277 v278 else k277 v270
) fun v279=> next271 v279
) v1 0 v267
) fun v280=> k268 v280
) fun v281=> next265 ((i64w (v266 + 1)),v281) else k264 v267
) fuel (1,[])
) fun v282=> if (decide ((v282.length:Int) > 8)) then some ((⟨0,[],(⟨false,(0:UInt64),(0:UInt64)⟩:Addr),0,0,0,[],[],[]⟩:Attrs),3) else some ((⟨v254,v255,(⟨v256,v257,v258⟩:Addr),v259,v260,v261,v262,v263,v282⟩:Attrs),0)
def ref18_SameList (a0:List Unknown) (a1:List Unknown):Option Bool:= if ((a0.length:Int) != (a1.length:Int)) then some false else joinP (τ:=Unit) (fun k1=> forR (σ:=Unit) (fun _=> k1 ()
) (fun next2 (x3:Unknown) i4 _=> joinP (τ:=Bool) (fun k5=> Option.bind (geti a1 (i4:Int)) fun v6=> if (x3.Flags != v6.Flags) then k5 true else Option.bind (geti a1 (i4:Int)) fun v7=> if (cond false true (x3.Type_ != v7.Type_)) then k5 true else Option.bind (geti a1 (i4:Int)) fun v8=> k5 (cond false true (!((bs x3.Data).toList == (bs v8.Data).toList)))
) fun v9=> if v9 then some false else next2 ()
) a0 0 ()
) fun _=> some true
def ref15_Same (a0:List Segment) (a1:List Segment):Option Bool:= if ((a0.length:Int) != (a1.length:Int)) then some false else joinP (τ:=Unit) (fun k1=> forR (σ:=Unit) (fun _=> k1 ()
) (fun next2 (x3:Segment) i4 _=> joinP (τ:=Unit) (fun k5=> joinP (τ:=Bool) (fun k6=> Option.bind (geti a1 (i4:Int)) fun v7=> if (!(x3.Set == v7.Set)) then k6 true else Option.bind (geti a1 (i4:Int)) fun v8=> k6 (cond false true ((x3.ASNs.length:Int) != (v8.ASNs.length:Int)))
) fun v9=> if v9 then some false else joinP (τ:=Unit) (fun k10=> forR (σ:=Unit) (fun _=> k10 ()
) (fun next11 (x12:Int) i13 _=> Option.bind (geti a1 (i4:Int)) fun v14=> Option.bind (geti v14.ASNs (i13:Int)) fun v15=> if (v15 != x12) then some false else next11 ()
) x3.ASNs 0 ()
) fun _=> k5 ()
) fun _=> next2 ()
) a0 0 ()
) fun _=> some true
def ref17_Same (a0:List Community) (a1:List Community):Option Bool:= if ((a0.length:Int) != (a1.length:Int)) then some false else joinP (τ:=Unit) (fun k1=> forR (σ:=Unit) (fun _=> k1 ()
) (fun next2 (x3:Community) i4 _=> Option.bind (geti a1 (i4:Int)) fun v5=> if (!(Community.eqd v5 x3)) then some false else next2 ()
) a0 0 ()
) fun _=> some true
def ref17_SameLarge (a0:List Large) (a1:List Large):Option Bool:= if ((a0.length:Int) != (a1.length:Int)) then some false else joinP (τ:=Unit) (fun k1=> forR (σ:=Unit) (fun _=> k1 ()
) (fun next2 (x3:Large) i4 _=> Option.bind (geti a1 (i4:Int)) fun v5=> if (!(Large.eqd v5 x3)) then some false else next2 ()
) a0 0 ()
) fun _=> some true
def ref18_Same (a0:Attrs) (a1:Attrs):Option Bool:= joinP (τ:=Bool) (fun k1=> if (a0.Origin == a1.Origin) then Option.bind (ref15_Same a0.Path a1.Path) fun v2=> if (cond true v2 false) then if (cond true (Addr.eqd a0.Next a1.Next) false) then if (cond true (a0.MED == a1.MED) false) then if (cond true (a0.Pref == a1.Pref) false) then if (cond true (a0.OTC == a1.OTC) false) then Option.bind (ref17_Same a0.Communities a1.Communities) fun v3=> if (cond true v3 false) then Option.bind (ref17_SameLarge a0.Large a1.Large) fun v4=> if (cond true v4 false) then Option.bind (ref18_SameList a0.Other a1.Other) fun v5=> k1 (cond true v5 false) else k1 false else k1 false else k1 false else k1 false else k1 false else k1 false else k1 false else k1 false
) fun v6=> some v6
def attribute_Split (a0:List UInt8):Option ((List Unknown)×Int):= joinP (τ:=(List Unknown)) (fun k1=> whileR (σ:=(List UInt8)×(List Unknown)) (fun next2 (v3,v4)=> if (decide ((v3.length:Int) > 0)) then Option.bind (geti v3 0) fun v5=> joinP (τ:=Int) (fun k6=> if (((toU8 ((BitVec.ofInt 8 (v5.toNat:Int) &&& BitVec.ofInt 8 16).toNat:Int)).toNat:Int) != 0) then k6 4 else k6 3
) fun v7=> joinP (τ:=Bool) (fun k8=> if (decide ((v3.length:Int) < v7)) then k8 true else Option.bind (part v3 2 v7) fun v9=> Option.bind (attribute_get v9) fun v10=> k8 (cond false true (decide ((i64w ((v3.length:Int) - v7)) < v10)))
) fun v11=> if v11 then some ([],12) else Option.bind (part v3 2 v7) fun v12=> Option.bind (attribute_get v12) fun v13=> Option.bind (geti v3 0) fun v14=> Option.bind (geti v3 1) fun v15=> Option.bind (part v3 v7 (i64w (v7 + v13))) fun v16=> Option.bind (apnd (α:=UInt8) 1 [] v16) fun _=> Option.bind (apnd (α:=Unknown) 40 v4 ([(⟨((toU8 ((BitVec.ofInt 8 (v14.toNat:Int) &&& BitVec.ofInt 8 224).toNat:Int)).toNat:Int),(v15.toNat:Int),v16⟩:Unknown)]:List Unknown)) fun v17=> Option.bind (part v3 (i64w (v7 + v13)) (v3.length:Int)) fun v18=> next2 (v18,v17) else k1 v4
) fuel (a0,[])
) fun v19=> some (v19,0)
def law18_awake:Option Bool:= Option.bind (attribute_Split ([(64:UInt8),(1:UInt8),(1:UInt8),(0:UInt8),(64:UInt8),(2:UInt8),(6:UInt8),(2:UInt8),(1:UInt8),(0:UInt8),(0:UInt8),(253:UInt8),(233:UInt8),(64:UInt8),(3:UInt8),(4:UInt8),(192:UInt8),(0:UInt8),(2:UInt8),(1:UInt8)]:List UInt8)) fun (v1,v2)=> Option.bind (attribute_Read v1) fun (v3,v4)=> joinP (τ:=Bool) (fun k5=> if (v2 == 0) then if (cond true (v4 == 0) false) then if (cond true (v3.Origin == 0) false) then if (cond true ((v3.Path.length:Int) == 1) false) then Option.bind (geti v3.Path 0) fun v6=> Option.bind (geti v6.ASNs 0) fun v7=> if (cond true (v7 == 65001) false) then if (cond true ((v3.Next.Lo.toNat:Int) == 3221225985) false) then k5 (cond true (v3.MED == (-1)) false) else k5 false else k5 false else k5 false else k5 false else k5 false else k5 false
) fun v8=> some v8
def law18_AttributeReads (a0:List Int) (a1:Int) (a2:Int):Option Bool:= Option.bind (make_New a0) fun v1=> Option.bind (law18_list v1) fun (v2,v3)=> Option.bind (make_Mod a1 4) fun v4=> joinP (τ:=(List Unknown)) (fun k5=> whileR (σ:=Int×(List Unknown)) (fun next6 (v7,v8)=> if (decide (v7 < (i64w (7 + v4)))) then Option.bind (apnd (α:=Unknown) 40 v8 ([(⟨192,(i64w (100 + v7)),([(1:UInt8)]:List UInt8)⟩:Unknown)]:List Unknown)) fun v9=> next6 ((i64w (v7 + 1)),v9) else k5 v8
) fuel (0,[])
) fun v10=> Option.bind (apnd (α:=Unknown) 40 [] v10) fun _=> Option.bind (apnd (α:=Unknown) 40 v10 v2) fun v11=> Option.bind (apnd (α:=Unknown) 40 [] v2) fun _=> Option.bind (make_Mod a2 3) fun v12=> Option.bind (chk (0 ≤ (i64w (254 + v12))∧(i64w (254 + v12)) ≤ (i64w (254 + v12))∧(i64w (254 + v12)) ≤ 1048576)) fun _=> Option.bind (apnd (α:=Unknown) 40 v2 ([(⟨224,90,(List.replicate (Int.toNat (i64w (254 + v12))) (0:UInt8))⟩:Unknown)]:List Unknown)) fun v13=> joinP (τ:=Unit) (fun k14=> forR (σ:=Unit) (fun _=> k14 ()
) (fun next15 (x16:List Unknown) i17 _=> Option.bind (attribute_Read x16) fun (v18,v19)=> Option.bind (ref18_Read x16) fun (v20,v21)=> joinP (τ:=Bool) (fun k22=> Option.bind (ref18_Same v18 v20) fun v23=> if (!v23) then k22 true else k22 (cond false true (v19 != v21))
) fun v24=> if v24 then some false else next15 ()
) ([v2,v11,v13]:List (List Unknown)) 0 ()
) fun _=> Option.bind (law18_awake) fun v25=> some v25
def attribute_Write_2 (a0:Unknown) (a1:Unknown):Option Int:= Option.bind (cmp_Compare_int a0.Type_ a1.Type_) fun v1=> some v1
end Go.AX.Q18
end
section
namespace Go.AX
section
variable {P:Program} {E:Env} {w w':World} {S:Sc} {φ:Nat→Option (Nat×Rp)} {ob:Nat→Option OB}
structure Grown (wl:Prop) (w w':World):Prop where
 hp :∀b,b < w.heap.size→w'.heap[b]?=w.heap[b]?
 sz:w.heap.size ≤ w'.heap.size
 os:w'.os=w.os
 out:w'.output=w.output
 tape:w'.tape=w.tape
 dr:wl ∨ w.drawn ≤ w'.drawn
theorem Grown.refl (wl:Prop) (w:World):Grown wl w w:=⟨fun _ _=>rfl,Nat.le_refl _,rfl,rfl,rfl,.inr (Nat.le_refl _)⟩
theorem Grown.trans {wl:Prop} {a b c:World} (h:Grown wl a b) (k:Grown wl b c):Grown wl a c:=
 ⟨fun n hn=>(k.hp n (Nat.lt_of_lt_of_le hn h.sz)).trans (h.hp n hn),Nat.le_trans h.sz k.sz,k.os.trans h.os,k.out.trans h.out,k.tape.trans h.tape,h.dr.elim .inl fun x=>k.dr.imp_right fun y=>Nat.le_trans x y⟩
theorem Grown.alloc {wl:Prop} (w:World) (o:Obj):Grown wl w (w.alloc o):=⟨fun b hb=>heap_alloc_of_lt w o hb,by simp,rfl,rfl,rfl,.inr (Nat.le_refl _)⟩
theorem Grown.drewN {wl:Prop} (w:World) (n:Nat):Grown wl w (w.drewN n):=⟨fun _ _=>rfl,Nat.le_refl _,rfl,rfl,rfl,.inr (Nat.le_add_right _ _)⟩
theorem Mem.grow (m:Mem E w S φ ob) (h:Grown E.wl.wl w w'):Mem E w' S φ ob∧Kept w S φ ob w' S φ ob:=
 m.grown h.hp h.sz ⟨h.os,h.out,h.tape,h.dr⟩
end
def FnOK (P : Program) (f : FuncId) : Prop := ∃ fn, P.funcs[f]? = some fn ∧ fn.name ≠ "runtime.NumGoroutine" ∧ fn.body.isSome = true
theorem fnOK {P : Program} {f : FuncId} {fn : Func} (h : P.funcs[f]? = some fn) (hn : (fn.name == "runtime.NumGoroutine") = false) (hb : fn.body.isSome = true) : FnOK P f := ⟨fn, h, by simpa using hn, hb⟩
end Go.AX
end
section
namespace Go.AX
open Go.Proofs Go.Sort Go.Shelf Go.RowKit
theorem two_val {vals:Array Value} {v u:Value} (hs:vals.size=2) (h:vals.getD 0 undef=v) (h':vals.getD 1 undef=u):vals=#[v,u]:=by
 match vals,hs with
 | ⟨[a,b]⟩,_=>
  simp at h h'
  rw [h,h']
theorem sortWorldK_heap {α:Type} [Inhabited α] (enc:α→List Value) (k:Nat) (w:World) (blk off n:Nat) (d:Array α) (os:Array Obj) (hb:blk < w.heap.size) :
  (∀b,b < w.heap.size→b ≠ blk→(sortWorldK enc k w blk off n d os).heap[b]?=w.heap[b]?)∧w.heap.size ≤ (sortWorldK enc k w blk off n d os).heap.size∧
  (∀vs e fr,w.heap[blk]?=some (.cells vs e fr)→(sortWorldK enc k w blk off n d os).heap[blk]?=some (.cells (putCells id off (flatK enc k d) vs) e fr))∧
  (sortWorldK enc k w blk off n d os).os=w.os∧(sortWorldK enc k w blk off n d os).output=w.output∧(sortWorldK enc k w blk off n d os).tape=w.tape∧w.drawn ≤ (sortWorldK enc k w blk off n d os).drawn:=by
 have hh:(sortWorldK enc k w blk off n d os).heap=(w.heap.modify blk (onCells (putCells id off (flatK enc k d)))) ++ os:=rfl
 refine ⟨fun b h1 h2=>?_,?_,fun vs e fr h=>?_,rfl,rfl,rfl,Nat.le_add_right _ _⟩
 ·rw [hh,Array.getElem?_append_left (by simpa using h1),Array.getElem?_modify,if_neg (Ne.symm h2)]
 ·rw [hh];simp
 ·rw [hh,Array.getElem?_append_left (by simpa using hb),Array.getElem?_modify,if_pos rfl,h]
  rfl
theorem grow_of {W w':World} (hp :∀b,b < W.heap.size→w'.heap[b]?=W.heap[b]?) (sz:W.heap.size ≤ w'.heap.size) (os:w'.os=W.os) (out:w'.output=W.output) (tape:w'.tape=W.tape) (dr:W.drawn ≤ w'.drawn) :
  ∃q os',w'=grow (W.drewN q) os':=by
 refine ⟨w'.drawn - W.drawn,w'.heap.extract W.heap.size w'.heap.size,?_⟩
 obtain ⟨h1,t1,d1,o1,u1⟩:=w'
 obtain ⟨h2,t2,d2,o2,u2⟩:=W
 simp only at hp sz os out tape dr
 subst os out tape
 have hheap:h1=h2 ++ h1.extract h2.size h1.size:=by
  apply Array.ext_getElem?
  intro i
  by_cases hi:i < h2.size
  ·rw [Array.getElem?_append_left hi];exact hp i hi
  ·rw [Array.getElem?_append_right (by omega),Array.getElem?_extract]
   by_cases hi2:i < h1.size
   ·rw [if_pos (by omega),show h2.size + (i - h2.size)=i by omega]
   ·rw [if_neg (by omega),Array.getElem?_eq_none (by omega)]
 have hd:d1=d2 + (d1 - d2):=by omega
 unfold grow World.drewN
 simp only
 congr 1
set_option maxHeartbeats 4000000 in
theorem sortF_ok {wl:WL} {P:Program} {ρ:Ren} {X:Type} {f:X→D} {cmp:X→X→Option Int} {g k e:Nat} (L:SlLaysF0.n6 P ρ) (hf:FnOK P (ρ.f 6)) (aE :∀w,(isAgg (ρ.t 24)).run P w=.ok true w) (zE :∀w,(Go.sizeOf (ρ.t 24)).run P w=.ok k w)
  (eg :∀args w,(callFunc g args).run P w=.ok (.enter g args) w) (hagg :∀x,(f x).isAgg=true) (hcmp :∀{a b r},cmp a b=some r→CallsOK wl.low P g [.d (f a),.d (f b)] [] (.i r) [])
  {l r:List X} (h:sortF cmp l=some r):CallsOK wl P (ρ.f 6) [.own 0 (List.map f l).length,.fn g []] [.row e k (List.map f l) .no] (.tup []) [.row e k (List.map f r) .no]:=by
 refine ⟨hf,fun w S φ gb hg vals hs hr hn m=>?_⟩
 have r0:=(hr 0 (by simp)).1
 have r1:=(hr 1 (by simp)).1
 simp only [List.getElem_cons_zero,List.getElem_cons_succ] at r0 r1
 have hv:=two_val hs rfl rfl
 generalize vals.getD 0 undef=v0 at r0 hv
 generalize vals.getD 1 undef=v1 at r1 hv
 cases r1 with | fn _ _ vs1 _ hs1 _ _=>
 obtain rfl:vs1=#[]:=Array.eq_empty_of_size_eq_zero (by simpa using hs1)
 cases r0 with | own _ _ _ kk c a0 hv0 hk0 h1 hb=>
 have hob:ofL [OB.row e k (List.map f l) .no] 0=some (.row e k (List.map f l) .no):=rfl
 obtain ⟨_,hown⟩:=h1 _ _ _ _ hob
 have hown:=hown rfl
 have hmem:=m.obj 0 _ hob
 obtain ⟨g0,g1,g2,g3⟩:=hmem
 have hol :∀r',ofL [OB.row e k (List.map f r') .no]=upd (ofL [OB.row e k (List.map f l) .no]) 0 (some (.row e k (List.map f r') .no)):=by
  intro r'
  funext q
  match q with
  | 0=>simp [ofL]
  | q + 1=>simp [ofL,upd]
 by_cases hl:0 < l.length
 rotate_left
 ·
  have hl0:l=[]:=List.eq_nil_of_length_eq_zero (by omega)
  subst hl0
  obtain ⟨hp,_⟩:=sortF_spec h
  obtain rfl:r=[]:=hp.eq_nil
  obtain ⟨p,cap,hvp⟩ :∃p cap,v0=.slice p 0 cap:=by rw [hv0,hk0];exact ⟨_,_,rfl⟩
  rw [hv,hvp]
  refine (AnyF.slices_SortFunc_none L p cap _ w).mono fun e' w' ⟨he,hw⟩=>⟨_,he,S,φ,hw ▸ m,hw ▸ .refl _ _ _ _,.tup [] #[] (fun _=>undef) rfl (fun i hi=>by simp at hi) (fun i hi=>by simp at hi),fun q hq=>by simp [AV.refs,AV.refs.refsL] at hq⟩
 rcases g3 with ⟨_,hnil⟩ | ⟨b,cap,vs,f0,f1,f2,f3,f4,f5,f6,f7,f8⟩
 ·simp at hnil
  subst hnil
  simp at hl
 obtain ⟨hlen,hget⟩:=sortF_get h hl
 have hsw:swoB cmp l=true:=by
  unfold sortF at h
  split at h
  ·assumption
  ·simp at h
 obtain ⟨hpsz,hpperm,_⟩:=pdqI_spec hsw hl
 have hv0':v0=.slice (some ⟨b,cap.2,none⟩) l.length cap.1:=by
  rcases hown with ⟨hφ0,_⟩ | ⟨b',cap',hφ0,hvv⟩
  ·rw [f1] at hφ0;simp at hφ0
  ·rw [f1] at hφ0
   simp only [Option.some.injEq,Prod.mk.injEq] at hφ0
   obtain ⟨rfl,rfl⟩:=hφ0
   rw [hvv];simp
 have hbl:=(m.ow 0 b cap (by simp [ofL]) f1).1
 let ix:Nat→Nat:=fun i=>min i (l.length - 1)
 have hix :∀i,ix i < l.length:=fun i=>by simp only [ix];omega
 let enc:Nat→List Value:=fun i=>(List.range k).map fun j=>f0 (ix i) j
 have hencl :∀x,(enc x).length=k:=fun x=>by simp [enc]
 have helem :∀i (hi:i < l.length),(f l[i]).cells.length=k:=fun i hi=>by have:=g1 i (by simpa using hi);simpa using this
 have hrep :∀i (hi:i < l.length) j (hj:j < k),∃hj':j < (f l[i]).cells.length,RepD S w ((f l[i]).cells[j]'hj') (f0 i j)∧((f l[i]).cells[j]'hj').isAgg=false:=by
  intro i hi j hj
  have hj':j < (f l[i]).cells.length:=by rw [helem i hi];exact hj
  refine ⟨hj',?_,?_⟩
  ·have:=f7 i (by simpa using hi) j (by simpa using hj');simpa using this
  ·have:=g2 i (by simpa using hi) j (by simpa using hj');simpa using this
 have hone :∀x,∀v ∈ enc x,v.oneCell'=true:=by
  intro x v hv
  obtain ⟨j,hj,rfl⟩:=List.mem_map.1 hv
  obtain ⟨hj',h2,h3⟩:=hrep (ix x) (hix x) j (by simpa using hj)
  exact h2.one h3
 have hflat :∀(d:Array Nat) t,t < d.size * k→(flatK enc k d)[t]! = f0 (ix d[t / k]!) (t % k):=by
  intro d t ht
  have hk0:0 < k:=g0
  rw [get_flatK _ _ _ _ ht]
  have:=Nat.mod_lt t hk0
  simp [enc,this]
 have hH:HoldsK enc k w b cap.2 (Array.range l.length):=by
  intro t ht
  have ht':t < l.length * k:=by simpa using ht
  have hk0:0 < k:=g0
  have hq:t / k < l.length:=Nat.div_lt_of_lt_mul (by rwa [Nat.mul_comm])
  rw [hflat _ t (by simpa using ht')]
  have h1:(Array.range l.length)[t / k]! = t / k:=by simp [hq]
  have h2:ix (t / k)=t / k:=by simp only [ix];omega
  have h3:=f6 (t / k) (t % k) (by simpa using hq) (Nat.mod_lt t hk0)
  have h4:t / k * k + t % k=t:=by rw [Nat.mul_comm];exact Nat.div_add_mod t k
  rw [h4] at h3
  rw [h1,h2]
  refine ⟨?_,?_⟩
  ·simp only [World.cell?,f2,id]
   exact h3
  ·simp [World.frozen?,f2]
 have hkeep :∀(n:Nat) (d:Array Nat) (os:Array Obj),Keeps S w S (sortWorldK enc k w b cap.2 n d os):=by
  intro n d os b' o hS
  obtain ⟨h1,_⟩:=sortWorldK_heap enc k w b cap.2 n d os hbl
  have hne:b' ≠ b:=fun he=>f8.1 o (by simp) (he ▸ hS)
  exact ⟨hS,cellAt_of_heap (h1 b' (m.bS b' o hS) hne) o⟩
 have hrepE :∀{W:World},Keeps S w S W→∀i (hi:i < l.length),RepD S W (f l[i]) (.agg ((List.range k).map fun j=>f0 i j).toArray):=by
  intro W hK i hi
  have ha:=hagg l[i]
  cases hfl:f l[i] with
  | agg cs=>
   have hcs:cs.length=k:=by have:=helem i hi;rw [hfl] at this;exact this
   refine .agg cs _ (fun j=>f0 i j) (by simp [hcs]) (fun j hj=>by simp [hcs ▸ hj]) (fun j hj=>?_) fun j hj=>?_
   ·obtain ⟨hj',_,h3⟩:=hrep i hi j (hcs ▸ hj)
    simp only [hfl,D.cells] at h3
    exact h3
   ·obtain ⟨hj',h2,_⟩:=hrep i hi j (hcs ▸ hj)
    simp only [hfl,D.cells] at h2
    exact h2.mono hK
  | val v=>rw [hfl] at ha;simp [D.isAgg] at ha
  | nil sz=>rw [hfl] at ha;simp [D.isAgg] at ha
  | lst sz es=>rw [hfl] at ha;simp [D.isAgg] at ha
 have hfull :∀x,∃(hi:ix x < l.length),enc x=(List.range k).map fun j=>f0 (ix x) j:=fun x=>⟨hix x,rfl⟩
 have hlays:CmpLays P g #[] enc k (cfI cmp l) b cap.2 (Array.range l.length).size w:=by
  intro q os dk hdk x y
  obtain ⟨w1,w2,w3,w4,w5,w6,w7⟩:=sortWorldK_heap enc k w b cap.2 q dk os hbl
  have hK:=hkeep q dk os
  generalize hW:sortWorldK enc k w b cap.2 q dk os=W at *
  have hx:=hix x
  have hy:=hix y
  obtain ⟨c1,_⟩:=swoB_spec hsw
  obtain ⟨rr,hrr⟩:=c1 l[ix x] (List.getElem_mem hx) l[ix y] (List.getElem_mem hy)
  have hcf:cfI cmp l x y=rr:=by
   have e1:ixL l x=some l[ix x]:=List.getElem?_eq_getElem hx
   have e2:ixL l y=some l[ix y]:=List.getElem?_eq_getElem hy
   unfold cfI
   rw [e1,e2]
   simp [hrr]
  have hn0 :∀r,ofL [] r=none:=fun r=>by simp [ofL]
  have hgW:GlobOK wl.low gb (PBof (fun _:Nat=>(none:Option (Nat×Rp))) ([]:List OB).length) S W:=by
   have e :∀b',gb b'→W.heap[b']?=w.heap[b']?:=fun b' hb'=>w1 b' (hg.lt b' hb') fun he=>hg.pb b' hb' ⟨0,cap,by simp,he ▸ f1⟩
   refine ⟨wl.ext _ _ _ e hg.gf,fun b' hb'=>Nat.lt_of_lt_of_le (hg.lt b' hb') w2,?_,fun b' o hb' hc=>hg.st b' o hb' ?_⟩
   ·rintro b' hb' ⟨r,c,h1,_⟩
    simp at h1
   ·rw [← cellAt_of_heap (e b' hb') o]
    exact hc
  refine ((hcmp hrr).2 W S (fun _=>none) gb hgW (#[.agg (enc x).toArray,.agg (enc y).toArray] ++ #[]) (by simp) (fun i hi=>?_) (fun _ _=>rfl) ⟨fun r o ho=>by rw [hn0] at ho;simp at ho,fun r _ _ _ _ hr=>absurd (hn0 r) hr,fun r o ho=>by rw [hn0] at ho;simp at ho,fun _ _ h=>h,fun _ _ _=>rfl,fun b' o hS=>Nat.lt_of_lt_of_le (m.bS b' o hS) w2,fun _ _ h _ _=>h,fun _ _ _=>rfl,Nat.le_refl _,fun r _ _ hr=>absurd (hn0 r) hr,⟨rfl,rfl,rfl,.inr (Nat.le_refl _)⟩⟩).mono fun e' w' he=>?_
  ·refine ⟨?_,?_⟩
   ·match i,hi with
    | 0,_=>exact .d _ _ (hrepE hK (ix x) hx)
    | 1,_=>exact .d _ _ (hrepE hK (ix y) hy)
   ·match i,hi with
    | 0,_=>exact closed_d _ _
    | 1,_=>exact closed_d _ _
  ·obtain ⟨v,rfl,S',φ',mm,_,hvv,_⟩:=he
   refine ⟨by rw [hvv.int,hcf],?_⟩
   have hpb :∀b',¬ PBof (fun _:Nat=>(none:Option (Nat×Rp))) ([]:List OB).length b':=by rintro b' ⟨r,c,h1,_⟩;simp at h1
   refine grow_of (fun b' hb'=>mm.fr b' hb' (hpb b')) mm.sz mm.os.1 mm.os.2.1 mm.os.2.2.1 ?_
   rcases mm.os.2.2.2 with h | h
   ·exact h.elim
   ·exact h
 have hc:=AnyQ.slices_SortFunc_eq L k aE zE enc hencl hone (cfI cmp l) (swo_cfI hsw hl) g #[] b cap.2 cap.1 (Array.range l.length) w eg hlays hH hbl (by
  have:=(swoB_spec hsw).2.2.2.2
  simp;omega)
 rw [hv,hv0']
 have hsz0:(Array.range l.length).size=l.length:=by simp
 rw [hsz0] at hc
 refine hc.mono fun e' w' ⟨he,n,os,hw⟩=>?_
 have hd:pdq (ltOf (cfI cmp l)) (Array.range l.length) 0 l.length (Lib.bitLen l.length) true true=pdqI cmp l:=rfl
 rw [hd] at hw
 obtain ⟨w1,w2,w3,w4,w5,w6,w7⟩:=sortWorldK_heap enc k w b cap.2 n (pdqI cmp l) os hbl
 rw [← hw] at w1 w2 w3 w4 w5 w6 w7
 have hcur:=w3 _ _ _ f2
 have hr' :∀i (hi:i < r.length),∃(hp:(pdqI cmp l)[i]! < l.length),r[i]=l[(pdqI cmp l)[i]!]:=by
  intro i hi
  obtain ⟨p1,p2⟩:=hget i (by omega)
  rw [List.getElem?_eq_getElem hi,List.getElem?_eq_getElem p1] at p2
  exact ⟨p1,Option.some.inj p2⟩
 obtain ⟨m2,k2⟩:=m.rowSet (es':=List.map f r) (cur':=putCells id cap.2 (flatK enc k (pdqI cmp l)) vs) (w':=w') hob f1 f2 (by simp [hlen])
  (fun i hi=>by
   have hi':i < r.length:=by simpa using hi
   obtain ⟨hp,he⟩:=hr' i hi'
   simp only [List.getElem_map,he]
   exact helem _ hp)
  (fun i hi j hj=>by
   have hi':i < r.length:=by simpa using hi
   obtain ⟨hp,he⟩:=hr' i hi'
   simp only [List.getElem_map,he] at hj ⊢
   obtain ⟨hj',_,h3⟩:=hrep _ hp j (by rw [helem _ hp] at hj;exact hj)
   exact h3)
  hcur (by simp [putCells]) (fun b' h1 h2=>w1 b' h1 h2) w2 ⟨w4,w5,w6,w7⟩ (fun i j=>f0 (pdqI cmp l)[i]! j)
  (fun i j hi hj=>by
   have hi':i < r.length:=by simpa using hi
   obtain ⟨hp,he⟩:=hr' i hi'
   have hil:i < l.length:=by omega
   have hik:i * k + j < l.length * k:=by
    have:=Nat.mul_le_mul_right k (show i + 1 ≤ l.length from hil)
    rw [Nat.add_mul,Nat.one_mul] at this
    omega
   have hbig:cap.2 + (i * k + j) < vs.size:=by
    have h3:l.length ≤ cap.1:=by simpa using f3
    have:=Nat.mul_le_mul_right k h3
    omega
   have e1:(i * k + j) / k=i:=by rw [Nat.mul_comm,Nat.mul_add_div g0,Nat.div_eq_of_lt hj,Nat.add_zero]
   have e2:(i * k + j) % k=j:=by rw [Nat.mul_comm,Nat.mul_add_mod,Nat.mod_eq_of_lt hj]
   have hfl:=hflat (pdqI cmp l) (i * k + j) (by rw [hpsz];exact hik)
   rw [e1,e2] at hfl
   have hixx:ix (pdqI cmp l)[i]! = (pdqI cmp l)[i]!:=by simp only [ix];omega
   rw [hixx] at hfl
   simp only [putCells,Array.getElem?_mapIdx,Array.getElem?_eq_getElem hbig,Option.map_some]
   rw [if_pos ⟨by omega,by rw [size_flatK,hpsz];omega⟩,show cap.2 + (i * k + j) - cap.2=i * k + j by omega,hfl]
   rfl)
  (fun i hi j hj=>by
   have hi':i < r.length:=by simpa using hi
   obtain ⟨hp,he⟩:=hr' i hi'
   simp only [List.getElem_map,he] at hj ⊢
   obtain ⟨hj',h2,_⟩:=hrep _ hp j (by rw [helem _ hp] at hj;exact hj)
   exact h2)
 rw [← hol r] at m2 k2
 exact ⟨_,he,S,φ,m2,k2,.tup [] #[] (fun _=>undef) rfl (fun i hi=>by simp at hi) (fun i hi=>by simp at hi),fun q hq=>by simp [AV.refs,AV.refs.refsL] at hq⟩
end Go.AX
end
