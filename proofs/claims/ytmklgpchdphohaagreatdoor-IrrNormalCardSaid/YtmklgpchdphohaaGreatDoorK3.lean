/-
  Texts of one proof, packed: L20H L20J L20K L20L L20M L20N Ax22 Q20Tab AxB5 Q20B Q20P0 Q20P1 Q20P2 Q20P3 Q20P4 Q20P5 Q20P6.
-/
import Derived.Test.YtmklgpchdphohaaGreatDoorK1
import Derived.Test.YtmklgpchdphohaaGreatDoorK2
import Derived.IntWalk
import Derived.KernelRfl
import Derived.Shelf.Lays
import Derived.Shelf.SlIter.Nil
import Derived.Shelf.SlIterI.Nil
import Derived.Shelf.SlSortCmp.NoneTotal
import Derived.Shelf.SortM.Plain
import Derived.Shelf.SortM.SortNone
import Derived.Test.YtmklgpchdphohaaGreatDoorProg
set_option linter.all false
section
namespace Go.AX.Q20
open Go Go.AX
set_option maxRecDepth 8000
theorem small_size {l:List UInt8} (h:l.length ≤ 100):(ByteArray.mk (List.toArray l)).size ≤ maxLen:=by
 have hm:maxLen=9223372036854775807:=rfl
 have:(ByteArray.mk (List.toArray l)).size=l.length:=by simp [ByteArray.size]
 omega
theorem bent_ok {r:Registry} (hr:regB r=true) (w b:Int):Ok (law20_bent r w b) fun x=>∀s ∈ x.Sets,SetSz s:=by
 obtain ⟨⟨_,hs⟩,_,hn,ho⟩:=regB_iff.1 hr
 have hz :∀s ∈ r.Sets,SetSz s:=fun s h=>setB_size (hs s h)
 unfold law20_bent
 refine .bind (Ok.apnd (by decide) (by simp;omega)) fun _ _=>.bind (Ok.apnd (by decide) (by simp;omega)) fun _ _=>?_
 refine .join (fun l:List Set=>∀s ∈ l,SetSz s) (fun k hk=>.ite (fun h0=>?_) fun _=>hk _ hz) fun l hl=>?_
 ·simp only [decide_eq_true_eq] at h0
  refine .bind (make_Mod_plain (by omega)) fun i hi=>.bind (Ok.geti hi) fun s hs0=>.bind (make_Mod_plain (by omega)) fun c hc=>?_
  have hsz:=hz s hs0.1
  obtain ⟨_,ha,hss,_⟩:=setB_iff.1 (hs s hs0.1)
  have hput :∀x:Set,SetSz x→∀l',l'=r.Sets.set i.toNat x→∀t ∈ l',SetSz t:=by
   intro x hx l' hl' t ht
   subst hl'
   rcases List.mem_or_eq_of_mem_set ht with h | h
   ·exact hz t h
   ·rw [h];exact hx
  refine .join (fun l:List Set=>∀s ∈ l,SetSz s) (fun k2 hk2=>.ite (fun _=>?_) fun _=>?_) fun l hl=>hk _ hl
  ·refine .bind (make_Mod_plain (by omega)) fun j hj=>.bind (Ok.geti (by simp;omega)) fun nm hnm=>.bind (Ok.seti hi) fun l' hl'=>hk2 _ (hput ({ s with Name:=nm }) (show SetSz ({ s with Name:=nm }) from ⟨?_,hsz.2⟩) l' hl'.1)
   have:=hnm.1
   simp only [List.mem_cons,List.not_mem_nil,or_false] at this
   rcases this with rfl | rfl | rfl<;>exact small_size (by simp)
  ·refine .join (fun l:List Set=>∀s ∈ l,SetSz s) (fun k3 hk3=>.ite (fun _=>?_) fun _=>?_) fun l hl=>hk2 _ hl
   ·refine .bind (Ok.apnd (by decide) (by simp;omega)) fun _ _=>.bind (make_Mod_plain (by omega)) fun j hj=>.bind (Ok.geti (by simp;omega)) fun x hx=>.bind (Ok.apnd (by decide) (by simp;omega)) fun y hy=>.bind (Ok.seti hi) fun l' hl'=>hk3 _ (hput ({ s with ASNs:=y }) (show SetSz ({ s with ASNs:=y }) from hsz) l' hl'.1)
   ·refine .join (fun l:List Set=>∀s ∈ l,SetSz s) (fun k4 hk4=>.ite (fun _=>?_) fun _=>hk4 _ hz) fun l hl=>hk3 _ hl
    refine .bind (Ok.apnd (by decide) (by simp;omega)) fun _ _=>.bind (make_Mod_plain (by omega)) fun j hj=>.bind (Ok.geti (by simp;omega)) fun x hx=>.bind (Ok.apnd (by decide) (by simp;omega)) fun y hy=>.bind (Ok.seti hi) fun l' hl'=>hk4 _ (hput ({ s with Sets:=y }) (show SetSz ({ s with Sets:=y }) from ⟨hsz.1,fun z hz2=>?_⟩) l' hl'.1)
    subst hy
    rcases List.mem_append.1 hz2 with h | h
    ·exact hsz.2 z h
    ·have:=hx.1
     simp only [List.mem_cons,List.not_mem_nil,or_false] at this h
     subst h
     rcases this with rfl | rfl<;>exact small_size (by simp)
 ·refine .join (fun _:List Object=>True) (fun k hk=>.ite (fun h0=>?_) fun _=>hk _ trivial) fun _ _=>.ret hl
  simp only [decide_eq_true_eq] at h0
  refine .bind (make_Mod_plain (by omega)) fun i hi=>.bind (Ok.geti hi) fun s hs0=>.bind (make_Mod_plain (by omega)) fun c hc=>?_
  refine .join (fun _:List Object=>True) (fun k2 hk2=>.ite (fun _=>?_) fun _=>?_) fun _ _=>hk _ trivial
  ·exact .bind (make_Mod_plain (by omega)) fun j hj=>.bind (Ok.seti hi) fun _ _=>hk2 _ trivial
  ·refine .join (fun _:List Object=>True) (fun k3 hk3=>.ite (fun _=>?_) fun _=>?_) fun _ _=>hk2 _ trivial
   ·exact .bind (make_Mod_plain (by omega)) fun j hj=>.bind (Ok.geti (by simp;omega)) fun x hx=>.bind (Ok.seti hi) fun _ _=>hk3 _ trivial
   ·refine .join (fun _:List Object=>True) (fun k4 hk4=>.ite (fun _=>?_) fun _=>?_) fun _ _=>hk3 _ trivial
    ·exact .bind (make_Mod_plain (by omega)) fun j hj=>.bind (Ok.geti (by simp;omega)) fun x hx=>.bind (Ok.seti hi) fun _ _=>hk4 _ trivial
    ·refine .join (fun _:List Object=>True) (fun k5 hk5=>.ite (fun _=>?_) fun _=>hk5 _ trivial) fun _ _=>hk4 _ trivial
     exact .bind (Ok.seti hi) fun _ _=>hk5 _ trivial
theorem ints_eq (a b:List Int):law20_ints a b=some (decide (a=b)):=by
 unfold law20_ints
 exact eqR (e:=fun v x:Int=>v != x) fun x y=>by rw [bne];by_cases h:x=y<;>simp [h]
theorem names_eq (a b:List ByteArray):law20_names a b=some (decide (a=b)):=by
 unfold law20_names
 exact eqR (e:=fun v x:ByteArray=>!(v.toList == x.toList)) fun x y=>by rw [baEq]
def nA:ByteArray:=⟨#[65]⟩
def nB:ByteArray:=⟨#[66]⟩
def nC:ByteArray:=⟨#[67]⟩
def exL:List Set:=[⟨nA,[1],[nB]⟩,⟨nB,[2],[nA,nC]⟩]
theorem exL_exp:Exp exL nA [1,2] [nC]:=by
 have hA:RN exL nA nA:=.base
 have hB:RN exL nA nB:=.step (s:=⟨nA,[1],[nB]⟩) (by simp [exL]) hA (by simp)
 have hC:RN exL nA nC:=.step (s:=⟨nB,[2],[nA,nC]⟩) (by simp [exL]) hB (by simp)
 have e1:nA ≠ nC:=by decide
 have e2:nB ≠ nC:=by decide
 refine ⟨by decide,fun a=>⟨fun ha=>?_,fun ⟨s,hs,_,hx⟩=>?_⟩,by simp,fun x=>⟨fun hx=>?_,fun ⟨hx,hno⟩=>?_⟩⟩
 ·simp only [List.mem_cons,List.not_mem_nil,or_false] at ha
  rcases ha with rfl | rfl
  ·exact ⟨⟨nA,[1],[nB]⟩,by simp [exL],hA,by simp⟩
  ·exact ⟨⟨nB,[2],[nA,nC]⟩,by simp [exL],hB,by simp⟩
 ·simp only [exL,List.mem_cons,List.not_mem_nil,or_false] at hs
  rcases hs with rfl | rfl<;>simp at hx<;>simp [hx]
 ·simp only [List.mem_cons,List.not_mem_nil,or_false] at hx
  subst hx
  refine ⟨hC,fun s hs=>?_⟩
  simp only [exL,List.mem_cons,List.not_mem_nil,or_false] at hs
  rcases hs with rfl | rfl
  ·exact e1
  ·exact e2
 ·cases hx with
  | base=>exact absurd rfl (hno ⟨nA,[1],[nB]⟩ (by simp [exL]))
  | step hs _ hy=>
   simp only [exL,List.mem_cons,List.not_mem_nil,or_false] at hs
   rcases hs with rfl | rfl
   ·simp at hy
    subst hy
    exact absurd rfl (hno ⟨nB,[2],[nA,nC]⟩ (by simp [exL]))
   ·simp only [List.mem_cons,List.not_mem_nil,or_false] at hy
    rcases hy with rfl | rfl
    ·exact absurd rfl (hno ⟨nA,[1],[nB]⟩ (by simp [exL]))
    ·simp
theorem awake_eq:law20_awake=some true:=by
 have hv:regB ⟨exL,[]⟩=true:=by decide +kernel
 obtain ⟨hm,hnum⟩:=regB_mod hv
 have hz :∀s ∈ exL,SetSz s:=fun s hs=>setB_size ((regB_iff.1 hv).1.2 s hs)
 obtain ⟨⟨a,m,e⟩,h1,h2⟩:=irr_Expand_plain (r:=⟨exL,[]⟩) (n:=nA) hm hz (small_size (l:=[65]) (by simp)) hnum hv
 rcases h2 with ⟨q1,_⟩ | ⟨s,_,q2,q3⟩
 ·have:findS exL nA ≠ none:=by decide
  exact absurd q1 this
 ·obtain ⟨e1,e2⟩:=q3.unique exL_exp
  simp only at q2 e1 e2
  subst q2 e1 e2
  unfold law20_awake
  have h3:irr_Expand (⟨([(⟨(ByteArray.mk (List.toArray (List.cons 65 List.nil))),([1]:List Int),([(ByteArray.mk (List.toArray (List.cons 66 List.nil)))]:List ByteArray)⟩:Set),(⟨(ByteArray.mk (List.toArray (List.cons 66 List.nil))),([2]:List Int),([(ByteArray.mk (List.toArray (List.cons 65 List.nil))),(ByteArray.mk (List.toArray (List.cons 67 List.nil)))]:List ByteArray)⟩:Set)]:List Set),[]⟩:Registry) (ByteArray.mk (List.toArray (List.cons 65 List.nil)))=some ([1,2],[nC],0):=h1
  rw [h3,some_bind']
  dsimp only
  rw [joinP_def]
  have g1:geti [(1:Int),2] 1=some 2:=rfl
  have g2:geti [nC] 0=some nC:=rfl
  have g3:(nC.toList == (ByteArray.mk (List.toArray (List.cons 67 List.nil))).toList)=true:=by rw [baEq];decide
  dsimp only
  rw [if_pos (by decide),if_pos (by decide),g1,some_bind',if_pos (by decide),if_pos (by decide),g2,some_bind',g3]
  rfl
theorem light_tt (r:Registry):Tt (law20_light r):=by unfold law20_light;exact Tt.auto
theorem IrrExpands_true (a0:Registry) (a1:ByteArray) (a2:List Int) (a3 a4:Int) (w0:a0.wf) (w1:a1.size ≤ maxLen∧a1.size ≤ reachBytes) (w2:a2.length ≤ maxLen∧a2.length * 8 ≤ reachBytes∧∀y ∈ a2,I64 y) (w3:I64 a3) (w4:I64 a4) :
  law20_IrrExpands a0 a1 a2 a3 a4=some true:=by
 have hm:maxLen=9223372036854775807:=rfl
 have hraw :∀s ∈ a0.Sets,SetSz s:=by
  intro s hs
  have h1:=w0.1.2.2 s hs
  exact ⟨h1.1.1,fun x hx=>(h1.2.2.1.2.2 x hx).1⟩
 suffices h:Ok (law20_IrrExpands a0 a1 a2 a3 a4) fun b=>b=true by
  obtain ⟨b,h1,rfl⟩:=h
  exact h1
 unfold law20_IrrExpands
 have:=light_tt a0
 refine .join (fun _=>True) (fun k hk=>.bind Ok.of fun v _=>.ite (fun _=>hk _ trivial) fun _=>hk _ trivial) fun b _=>.ite (fun _=>?_) fun _=>?_
 ·rw [awake_eq,some_bind']
  exact .ret rfl
 unfold make_New
 rw [some_bind']
 refine .bind (make_Registry_plain ⟨by simp,by simp only;omega⟩) ?_
 rintro ⟨r,d⟩ ⟨hr,_⟩
 dsimp only at hr ⊢
 refine .bind (bent_ok hr a3 a4) fun x hx=>?_
 have hrz :∀s ∈ r.Sets,SetSz s:=fun s hs=>setB_size ((regB_iff.1 hr).1.2 s hs)
 refine .join (fun _=>True) (fun k hk=>?_) fun _ _=>?_
 ·refine .for_ (fun _=>hk _ trivial) fun next y i _ _ hy hn=>?_
  have hyz :∀s ∈ y.Sets,SetSz s:=by
   simp only [List.mem_cons,List.not_mem_nil,or_false] at hy
   rcases hy with rfl | rfl | rfl
   ·exact hraw
   ·exact hrz
   ·exact hx
  refine .join (fun _=>True) (fun k2 hk2=>?_) fun _ _=>hn _
  rw [irr_Valid_eq hyz,ref20_Valid_eq hyz,some_bind',some_bind']
  refine .ite (fun h=>absurd h (by simp)) fun _=>?_
  refine .join (fun _=>True) (fun k3 hk3=>?_) fun _ _=>hk2 _ trivial
  refine .for_ (fun _=>hk3 _ trivial) fun next n j _ _ hnm hnx=>?_
  have hnz:n.size ≤ maxLen:=by
   simp only [List.mem_cons,List.not_mem_nil,or_false] at hnm
   rcases hnm with rfl | rfl | rfl | rfl
   ·exact w1.1
   all_goals exact small_size (by simp)
  obtain ⟨a,m,e,e1,e2⟩:=exp_both hyz hnz
  rw [e1,e2,some_bind',some_bind']
  dsimp only
  rw [joinP_def,ints_eq,names_eq,some_bind',if_neg (by simp),some_bind',if_neg (by simp)]
  refine .ite (fun h=>absurd h (by simp)) fun _=>hnx _
 ·rw [irr_Valid_eq hrz,hr,awake_eq]
  refine .join (fun b=>b=true) (fun k hk=>?_) fun b hb=>.ret hb
  rw [some_bind',if_pos rfl,some_bind']
  exact hk _ rfl
end Go.AX.Q20
end
section
namespace Go.AX.Q20
open Go Go.AX
set_option maxRecDepth 8000
def cmpI (a b:Int):Int:=if a < b then -1 else if b < a then 1 else 0
def orI:List Int→Int
 | []=>0
 | x::t=>if x=0 then orI t else x
def lexC:List Int→List Int→Int
 | x::s,y::t=>if x < y then -1 else if y < x then 1 else lexC s t
 | _,_=>0
def fam (a:Addr):Int:=if a.V6 then 1 else 0
def keyA (a:Addr):List Int:=[fam a,a.Hi.toNat,a.Lo.toNat]
def keyO (o:Object):List Int:=[fam o.Prefix.Addr,o.Prefix.Addr.Hi.toNat,o.Prefix.Addr.Lo.toNat,o.Prefix.Len,o.Max,o.ASN]
def cmpO (a b:Object):Int:=lexC (keyO a) (keyO b)
theorem orI_cons (x:Int) (t:List Int):orI (x::t)=if x=0 then orI t else x:=rfl
theorem cmpI_eq (a b:Int):cmp_Compare_int a b=some (cmpI a b):=by
 unfold cmp_Compare_int cmp_isNaN_int cmpI
 simp only [some_bind',bne_self_eq_false,Bool.false_eq_true,if_false,decide_eq_true_eq,gt_iff_lt]
 split<;>(try split)<;>rfl
theorem cmpU_eq (a b:UInt64):cmp_Compare_uint64 a b=some (cmpI a.toNat b.toNat):=by
 unfold cmp_Compare_uint64 cmp_isNaN_uint64 cmpI
 simp only [some_bind',bne_self_eq_false,Bool.false_eq_true,if_false,decide_eq_true_eq,gt_iff_lt]
 split<;>(try split)<;>rfl
theorem fam_eq (a:Addr):addr_family a=some (fam a):=by unfold addr_family fam;split<;>rfl
theorem orI_eq (l:List Int):cmp_Or_int l=some (orI l):=by
 unfold cmp_Or_int
 rw [joinP_def]
 have key :∀(l:List Int) (i:Nat),forR (σ:=Unit) (fun _=>some (0:Int)) (fun next x _ _=>if (x != 0)=true then some x else next ()) l i ()=some (orI l):=by
  intro l
  induction l with
  | nil=>intro i;rfl
  | cons x t ih=>
   intro i
   show (if (x != 0)=true then some x else forR _ _ t (i + 1) ())=_
   rw [ih]
   rw [orI_cons]
   by_cases h:x=0<;>simp [h]
 exact key l 0
theorem orI_flat (l t:List Int):orI (orI l::t)=orI (l ++ t):=by
 induction l with
 | nil=>rfl
 | cons x s ih=>
  by_cases h:x=0
  ·simp only [orI,h,if_true,List.cons_append] at ih ⊢
   exact ih
  ·simp [orI,h]
theorem orI_cmp (x y:Int) (t:List Int):orI (cmpI x y::t)=if x < y then -1 else if y < x then 1 else orI t:=by
 rw [orI_cons]
 unfold cmpI
 split
 ·rfl
 ·split<;>simp
theorem irr_Compare_eq (a b:Object):irr_Compare a b=some (cmpO a b):=by
 unfold irr_Compare prefix_Cmp addr_Cmp
 simp only [fam_eq,cmpI_eq,cmpU_eq,orI_eq,some_bind',orI_flat,List.cons_append,List.nil_append]
 simp only [orI_cmp]
 rfl
theorem lexC_app (a b:List Int) (c d:List Int) (h:a.length=b.length):lexC (a ++ c) (b ++ d)=if lexC a b=0 then lexC c d else lexC a b:=by
 induction a generalizing b with
 | nil=>cases b with
  | nil=>simp [lexC]
  | cons y t=>simp at h
 | cons x s ih=>cases b with
  | nil=>simp at h
  | cons y t=>
   simp only [List.cons_append,lexC]
   rw [ih t (by simpa using h)]
   split
   ·simp
   ·split<;>simp
theorem lexC_self :∀a:List Int,lexC a a=0
 | []=>rfl
 | x::t=>by unfold lexC;simp [lexC_self t]
theorem lexC_zero :∀{a b:List Int},a.length=b.length→lexC a b=0→a=b
 | [],[],_,_=>rfl
 | [],_::_,h,_=>by simp at h
 | _::_,[],h,_=>by simp at h
 | x::s,y::t,h,e=>by
  unfold lexC at e
  split at e
  ·simp at e
  ·split at e
   ·simp at e
   ·rw [lexC_zero (by simpa using h) e,show x=y by omega]
theorem lexC_neg :∀a b:List Int,lexC b a=- lexC a b
 | [],[]=>rfl
 | [],_::_=>rfl
 | _::_,[]=>rfl
 | x::s,y::t=>by
  unfold lexC
  have:=lexC_neg s t
  split<;>split<;>first | omega | (split<;>omega)
theorem lexC_tr :∀{a b c:List Int},a.length=b.length→b.length=c.length→lexC a b < 0→lexC b c < 0→lexC a c < 0
 | [],_,_,_,_,h,_=>by simp [lexC] at h
 | _::_,[],_,h,_,_,_=>by simp at h
 | _::_,_::_,[],_,h,_,_=>by simp at h
 | x::s,y::t,z::u,h1,h2,h3,h4=>by
  have ih:=@lexC_tr s t u (by simpa using h1) (by simpa using h2)
  unfold lexC at h3 h4 ⊢
  by_cases a1:x < y
  ·by_cases a2:y < z
   ·rw [if_pos (by omega)];omega
   ·rw [if_neg a2] at h4
    by_cases a3:z < y
    ·rw [if_pos a3] at h4;omega
    ·rw [if_pos (by omega)];omega
  ·rw [if_neg a1] at h3
   by_cases a4:y < x
   ·rw [if_pos a4] at h3;omega
   ·rw [if_neg a4] at h3
    have:x=y:=by omega
    subst this
    by_cases a2:x < z
    ·rw [if_pos a2];omega
    ·rw [if_neg a2] at h4 ⊢
     by_cases a3:z < x
     ·rw [if_pos a3] at h4;omega
     ·rw [if_neg a3] at h4 ⊢
      exact ih h3 h4
theorem Object.eqd_iff (a b:Object):Object.eqd a b=true ↔ a=b:=by
 have h:=Prefix.eqd_iff a.Prefix b.Prefix
 unfold Prefix.eqd at h
 unfold Object.eqd
 simp only [Bool.and_eq_true,Bool.and_true,beq_iff_eq] at h ⊢
 rw [h]
 constructor
 ·rintro ⟨h1,h2,h3⟩;cases a;cases b;simp_all
 ·rintro rfl;exact ⟨rfl,rfl,rfl⟩
theorem fam_inj {a b:Addr} (h:fam a=fam b):a.V6=b.V6:=by
 unfold fam at h
 cases h1:a.V6<;>cases h2:b.V6<;>simp_all
theorem keyA_inj {a b:Addr} (h:keyA a=keyA b):a=b:=by
 simp only [keyA,List.cons.injEq,Int.natCast_inj,UInt64.toNat_inj,and_true] at h
 obtain ⟨h1,h2,h3⟩:=h
 have:=fam_inj h1
 cases a;cases b;simp_all
theorem keyO_inj {a b:Object} (h:keyO a=keyO b):a=b:=by
 simp only [keyO,List.cons.injEq,and_true] at h
 obtain ⟨h1,h2,h3,h4,h5,h6⟩:=h
 have:=@keyA_inj a.Prefix.Addr b.Prefix.Addr (by unfold keyA;rw [h1,h2,h3])
 obtain ⟨⟨x,y⟩,u,v⟩:=a
 obtain ⟨⟨x',y'⟩,u',v'⟩:=b
 simp_all
theorem two_cmp (f p q r s:Int) (h:p ≠ r ∨ q ≠ s):joinP (τ:=Bool) (fun k1=>if decide (p < r)=true then k1 true else if (p == r)=true then k1 (cond false true (cond true (decide (q < s)) false)) else k1 false) (fun v2=>if v2=true then some (-1:Int) else some 1)=some (lexC [f,p,q] [f,r,s]):=by
 rw [joinP_def]
 simp only [lexC,Int.lt_irrefl,if_false,decide_eq_true_eq,beq_iff_eq,cond_true,cond_false]
 by_cases a1:p < r<;>by_cases a2:p=r<;>by_cases a3:r < p<;>by_cases b1:q < s<;>by_cases b3:s < q<;>first | (exfalso;omega) | simp [a1,a2,a3,b1,b3]
theorem ref01_Cmp_eq (a b:Addr):ref01_Cmp a b=some (lexC (keyA a) (keyA b)):=by
 unfold ref01_Cmp
 by_cases h:a=b
 ·subst h
  rw [if_pos ((Addr.eqd_iff _ _).2 rfl),lexC_self]
 ·rw [if_neg (fun q=>h ((Addr.eqd_iff _ _).1 q))]
  unfold keyA fam
  by_cases h6:a.V6=b.V6
  ·rw [h6,if_neg (by simp)]
   refine two_cmp _ _ _ _ _ ?_
   by_cases h2:(a.Hi.toNat:Int)=b.Hi.toNat
   ·refine .inr fun h3=>h (keyA_inj ?_)
    unfold keyA fam
    rw [h6,h2,h3]
   ·exact .inl h2
  ·rw [if_pos (by simpa using h6)]
   cases ha:a.V6<;>cases hb:b.V6<;>simp_all [lexC]
theorem ref02_Cmp_eq (a b:Prefix):ref02_Cmp a b=some (lexC (keyA a.Addr ++ [a.Len]) (keyA b.Addr ++ [b.Len])):=by
 unfold ref02_Cmp
 rw [ref01_Cmp_eq,some_bind',lexC_app (keyA a.Addr) (keyA b.Addr) [a.Len] [b.Len] rfl]
 by_cases h:lexC (keyA a.Addr) (keyA b.Addr)=0
 ·rw [if_neg (by simpa using h),if_pos h]
  simp only [lexC,decide_eq_true_eq,gt_iff_lt]
  split
  ·rfl
  ·split<;>rfl
 ·rw [if_pos (by simpa using h),if_neg h]
theorem two_cmp' (p q r s:Int) (e:Bool) (h:e=true ↔ (p=r∧q=s)):joinP (τ:=Bool) (fun k1=>if decide (p < r)=true then k1 true else if (p == r)=true then k1 (cond false true (cond true (decide (q < s)) false)) else k1 false) (fun v2=>if v2=true then some (-1:Int) else if e=true then some 0 else some 1)=some (lexC [p,q] [r,s]):=by
 rw [joinP_def]
 simp only [lexC,h,decide_eq_true_eq,beq_iff_eq,cond_true,cond_false]
 by_cases a1:p < r<;>by_cases a2:p=r<;>by_cases a3:r < p<;>by_cases b1:q < s<;>by_cases b2:q=s<;>by_cases b3:s < q<;>first | (exfalso;omega) | simp [a1,a2,a3,b1,b2,b3]
theorem ref20_Cmp_eq (a b:Object):ref20_Cmp a b=some (cmpO a b):=by
 unfold ref20_Cmp
 have e:cmpO a b=lexC ((keyA a.Prefix.Addr ++ [a.Prefix.Len]) ++ [a.Max,a.ASN]) ((keyA b.Prefix.Addr ++ [b.Prefix.Len]) ++ [b.Max,b.ASN]):=rfl
 rw [ref02_Cmp_eq,some_bind',e,lexC_app (keyA a.Prefix.Addr ++ [a.Prefix.Len]) (keyA b.Prefix.Addr ++ [b.Prefix.Len]) [a.Max,a.ASN] [b.Max,b.ASN] rfl]
 by_cases h:lexC (keyA a.Prefix.Addr ++ [a.Prefix.Len]) (keyA b.Prefix.Addr ++ [b.Prefix.Len])=0
 ·rw [if_neg (by simpa using h),if_pos h]
  refine two_cmp' _ _ _ _ _ ((Object.eqd_iff _ _).trans ⟨fun q=>by rw [q];exact ⟨rfl,rfl⟩,fun q=>keyO_inj ?_⟩)
  show (keyA a.Prefix.Addr ++ [a.Prefix.Len]) ++ [a.Max,a.ASN]=(keyA b.Prefix.Addr ++ [b.Prefix.Len]) ++ [b.Max,b.ASN]
  rw [lexC_zero (by rfl) h,q.1,q.2]
 ·rw [if_pos (by simpa using h),if_neg h]
def ltO (a b:Object):Bool:=decide (cmpO a b < 0)
theorem ltO_irr (a:Object):ltO a a=false:=by unfold ltO cmpO;rw [lexC_self];rfl
theorem ltO_tr (a b c:Object) (h1:ltO a b=true) (h2:ltO b c=true):ltO a c=true:=by
 unfold ltO cmpO at *
 simp only [decide_eq_true_eq] at *
 exact lexC_tr (by rfl) (by rfl) h1 h2
theorem ltO_tot (a b:Object) (h:ltO a b=false):a=b ∨ ltO b a=true:=by
 unfold ltO cmpO at *
 simp only [decide_eq_false_iff_not,decide_eq_true_eq] at *
 have:=lexC_neg (keyO a) (keyO b)
 by_cases h0:lexC (keyO a) (keyO b)=0
 ·exact .inl (keyO_inj (lexC_zero (by rfl) h0))
 ·exact .inr (by omega)
theorem ltO_asym (a b:Object) (h:ltO a b=true):ltO b a=false:=by
 cases h1:ltO b a
 ·rfl
 ·have:=ltO_tr _ _ _ h h1
  rw [ltO_irr] at this;simp at this
theorem ltO_neg (a b c:Object) (h1:ltO a b=false) (h2:ltO b c=false):ltO a c=false:=by
 rcases ltO_tot _ _ h1 with rfl | h1
 ·exact h2
 ·rcases ltO_tot _ _ h2 with rfl | h2
  ·exact ltO_asym _ _ h1
  ·exact ltO_asym _ _ (ltO_tr _ _ _ h2 h1)
theorem ltC_O (a b:Object):ltC irr_Compare a b=ltO a b:=by unfold ltC;rw [irr_Compare_eq];rfl
theorem sort_plain {l:List Object} (hl:l.length ≤ 1000000000):Ok (sortF irr_Compare l) fun r=>r.Perm l∧r.Pairwise fun a b=>ltO b a=false:=by
 obtain ⟨r,hr⟩:=sortF_some (cmp:=irr_Compare) (l:=l) (swoB_of (fun a _ b _=>⟨_,irr_Compare_eq a b⟩) (fun a _=>by rw [ltC_O,ltO_irr])
  (fun a _ b _ c _ h1 h2=>by rw [ltC_O] at *;exact ltO_tr _ _ _ h1 h2) (fun a _ b _ c _ h1 h2=>by rw [ltC_O] at *;exact ltO_neg _ _ _ h1 h2) hl)
 obtain ⟨h1,h2⟩:=sortF_spec hr
 exact ⟨r,hr,h1,h2.imp fun h=>by rw [ltC_O] at h;exact h⟩
end Go.AX.Q20
end
section
namespace Go.AX.Q20
open Go Go.AX
set_option maxRecDepth 8000
theorem geti_of {α:Type} {l:List α} {i:Int} {x:α} (h0:0 ≤ i) (h:l[i.toNat]?=some x):geti l i=some x:=by
 have:=(List.getElem?_eq_some_iff.1 h).1
 unfold geti
 rw [if_pos (by omega),h]
theorem set_take {α:Type} {l:List α} {i:Nat} {x:α} (h:i < l.length):(l.set i x).take (i + 1)=l.take i ++ [x]:=by
 rw [List.take_add_one,List.take_set_of_le (Nat.le_refl _),List.getElem?_set_self h]
 rfl
theorem cp_new {p q:List Object} {y z:Object} (hp:p.Pairwise fun a b=>ltO a b=true) (hm :∀x,x ∈ p ↔ x ∈ q) (hz:z ∈ q) (hq :∀x ∈ q,ltO z x=false) (hyz:ltO y z=false) (hne:y ≠ z) :
  (p ++ [y]).Pairwise (fun a b=>ltO a b=true)∧∀x,x ∈ p ++ [y] ↔ x ∈ q ++ [y]:=by
 refine ⟨List.pairwise_append.2 ⟨hp,by simp,fun x hx w hw=>?_⟩,fun x=>by rw [List.mem_append,List.mem_append,hm]⟩
 rw [List.mem_singleton] at hw
 subst hw
 have h1:=hq x ((hm x).1 hx)
 have h2:ltO z w=true:=(ltO_tot _ _ hyz).resolve_left hne
 rcases ltO_tot _ _ h1 with e | e
 ·rw [← e];exact h2
 ·exact ltO_tr _ _ _ e h2
theorem compact_plain {l:List Object} (hs:l.Pairwise fun a b=>ltO b a=false) (hl:l.length ≤ 1000000000) :
  Ok (slices_Compact_api_Object_api_Object l) fun c=>c.Pairwise (fun a b=>ltO a b=true)∧∀x,x ∈ c ↔ x ∈ l:=by
 have hprev :∀(k:Nat) (z:Object),l[k]?=some z→∀x ∈ l.take (k + 1),ltO z x=false:=by
  intro k z hk x hx
  obtain ⟨i,hi,rfl⟩:=List.mem_iff_getElem.1 hx
  rw [List.length_take] at hi
  obtain ⟨hk1,rfl⟩:=List.getElem?_eq_some_iff.1 hk
  rw [List.getElem_take]
  by_cases e:i=k
  ·subst e;exact ltO_irr _
  ·exact List.pairwise_iff_getElem.1 hs i k (by omega) hk1 (by omega)
 have hnext :∀(k:Nat) (z y:Object),l[k]?=some z→l[k + 1]?=some y→ltO y z=false:=by
  intro k z y hk hy
  obtain ⟨hk1,rfl⟩:=List.getElem?_eq_some_iff.1 hk
  obtain ⟨hk2,rfl⟩:=List.getElem?_eq_some_iff.1 hy
  exact List.pairwise_iff_getElem.1 hs k (k + 1) hk1 hk2 (by omega)
 have htk :∀(k:Nat) (y:Object),l[k]?=some y→l.take (k + 1)=l.take k ++ [y]:=by
  intro k y hk
  rw [List.take_add_one,hk];rfl
 have hmem :∀(k:Nat) (z:Object),l[k]?=some z→z ∈ l.take (k + 1):=by
  intro k z hk;rw [htk k z hk];simp
 unfold slices_Compact_api_Object_api_Object
 refine .ite (fun h=>?_) fun h=>?_
 ·simp only [decide_eq_true_eq] at h
  refine .ret ⟨?_,fun _=>Iff.rfl⟩
  match l,h with
  | [],_=>exact .nil
  | [x],_=>simp
  | x::y::t,h=>simp at h;omega
 simp only [decide_eq_true_eq] at h
 refine .join (fun _=>l.Pairwise fun a b=>ltO a b=true) (fun k1 hk1=>?_) fun _ h=>.ret ⟨h,fun _=>Iff.rfl⟩
 refine .whileI (fun v:Int=>1 ≤ v∧v ≤ l.length∧(l.take v.toNat).Pairwise fun a b=>ltO a b=true) (fun v=>(l.length - v).toNat) ⟨by omega,by omega,?_⟩ (lt_fuel (by omega)) fun next v hv hnx=>?_
 ·match l,h with
  | x::t,_=>simp
  | [],h=>simp at h
 obtain ⟨v1,v2,v3⟩:=hv
 refine .ite (fun hlt=>?_) fun hge=>?_
 rotate_left
 ·simp only [decide_eq_true_eq] at hge
  refine hk1 () ?_
  have:v.toNat=l.length:=by omega
  rw [this,List.take_length] at v3
  exact v3
 simp only [decide_eq_true_eq] at hlt
 obtain ⟨n,rfl⟩ :∃n:Nat,v=((n + 1:Nat):Int):=⟨(v - 1).toNat,by omega⟩
 have hn:n + 1 < l.length:=by omega
 have gy:l[n + 1]?=some l[n + 1]:=List.getElem?_eq_getElem hn
 have gz:l[n]?=some l[n]:=List.getElem?_eq_getElem (by omega)
 have e1:geti l ((n + 1:Nat):Int)=some l[n + 1]:=geti_nat hn
 have e2:geti l (i64w (((n + 1:Nat):Int) - 1))=some l[n]:=by
  rw [i64w_id (by omega),show ((n + 1:Nat):Int) - 1=(n:Int) by omega]
  exact geti_nat (by omega)
 refine .join (fun _=>l[n + 1] ≠ l[n]) (fun k4 hk4=>?_) fun _ hne=>?_
 rotate_left
 ·rw [i64w_id (by omega)]
  refine hnx _ ⟨by omega,by omega,?_⟩ (by omega)
  have:=(cp_new (p:=l.take (n + 1)) (q:=l.take (n + 1)) v3 (fun _=>Iff.rfl) (hmem n _ gz) (hprev n _ gz) (hnext n _ _ gz gy) hne).1
  rw [← htk _ _ gy] at this
  have e:(((n + 1:Nat):Int) + 1).toNat=n + 1 + 1:=by omega
  rw [e];exact this
 rw [e1,some_bind',e2,some_bind']
 refine .ite (fun heq=>?_) fun hne=>hk4 _ fun e=>hne ((Object.eqd_iff _ _).2 e)
 have heq:=(Object.eqd_iff _ _).1 heq
 refine .bind (Ok.chk (by omega)) fun _ _=>?_
 refine .join (fun p:Int×List Object=>0 ≤ p.1∧p.1 ≤ l.length∧p.2.length=l.length∧(p.2.take p.1.toNat).Pairwise (fun a b=>ltO a b=true)∧∀x,x ∈ p.2.take p.1.toNat ↔ x ∈ l) (fun k7 hk7=>?_) ?_
 ·refine .whileI (fun p:Int×Int×List Object=>0 ≤ p.1∧1 ≤ p.2.1∧p.1 ≤ (n + 1:Nat) + p.2.1 - 1∧(n + 1:Nat) + p.2.1 ≤ l.length∧p.2.2.length=l.length∧(∀j:Nat,p.1 ≤ j→p.2.2[j]?=l[j]?)∧
    (p.2.2.take p.1.toNat).Pairwise (fun a b=>ltO a b=true)∧∀x,x ∈ p.2.2.take p.1.toNat ↔ x ∈ l.take ((n + 1:Nat) + p.2.1).toNat) (fun p=>(l.length - p.2.1).toNat) ⟨by dsimp only;omega,by dsimp only;omega,by dsimp only;omega,by dsimp only;omega,rfl,fun _ _=>rfl,v3,fun x=>?_⟩ (lt_fuel (by dsimp only;omega)) ?_
  ·dsimp only
   have e:(((n + 1:Nat):Int) + 1).toNat=n + 1 + 1:=by omega
   rw [e,htk _ _ gy,Int.toNat_natCast]
   constructor
   ·exact fun h=>List.mem_append_left _ h
   ·intro h
    rcases List.mem_append.1 h with h | h
    ·exact h
    ·rw [List.mem_singleton] at h
     rw [h,heq];exact hmem n _ gz
  rintro next ⟨i,k,a⟩ ⟨q1,q2,q3,q4,q5,q6,q7,q8⟩ hnx2
  dsimp only at q1 q2 q3 q4 q5 q6 q7 q8 ⊢
  refine .ite (fun hk=>?_) fun hk=>?_
  rotate_left
  ·simp only [decide_eq_true_eq] at hk
   refine hk7 (i,a) ⟨q1,by dsimp only;omega,q5,q7,fun x=>?_⟩
   dsimp only
   rw [q8 x,show ((n + 1:Nat) + k).toNat=l.length by omega,List.take_length]
  simp only [decide_eq_true_eq] at hk
  obtain ⟨m,rfl⟩ :∃m:Nat,k=((m + 1:Nat):Int):=⟨(k - 1).toNat,by omega⟩
  have hml:n + 1 + (m + 1) < l.length:=by omega
  have gy2:l[n + 1 + (m + 1)]?=some l[n + 1 + (m + 1)]:=List.getElem?_eq_getElem hml
  have gz2:l[n + 1 + m]?=some l[n + 1 + m]:=List.getElem?_eq_getElem (by omega)
  have ge :∀j:Nat,n + 1 + j < l.length→i ≤ ((n + 1 + j:Nat):Int)→∀y,l[n + 1 + j]?=some y→geti (List.take (Int.toNat (l.length:Int) - Int.toNat ((n + 1:Nat):Int)) (List.drop (Int.toNat ((n + 1:Nat):Int)) a)) (j:Int)=some y:=by
   intro j hj hij y hy
   refine geti_of (by omega) ?_
   rw [Int.toNat_natCast,Int.toNat_natCast,Int.toNat_natCast,List.getElem?_take_of_lt (by omega),List.getElem?_drop,q6 _ hij]
   exact hy
  have r1:=ge (m + 1) hml (by omega) _ gy2
  have r2:=ge m (by omega) (by omega) _ gz2
  rw [r1,some_bind',i64w_id (x:=((m + 1:Nat):Int) - 1) (by omega),show ((m + 1:Nat):Int) - 1=(m:Int) by omega,r2,some_bind']
  refine .join (fun p:Int×List Object=>0 ≤ p.1∧p.1 ≤ (n + 1:Nat) + ((m + 1:Nat):Int)∧p.2.length=l.length∧(∀j:Nat,p.1 ≤ j→p.2[j]?=l[j]?)∧
    (p.2.take p.1.toNat).Pairwise (fun a b=>ltO a b=true)∧∀x,x ∈ p.2.take p.1.toNat ↔ x ∈ l.take (n + 1 + (m + 1) + 1)) (fun k14 hk14=>?_) ?_
  ·have et:((n + 1:Nat) + ((m + 1:Nat):Int)).toNat=n + 1 + (m + 1):=by omega
   rw [et] at q8
   refine .ite (fun hne=>?_) fun heq2=>?_
   ·have hne:l[n + 1 + (m + 1)] ≠ l[n + 1 + m]:=fun e=>by rw [(Object.eqd_iff _ _).2 e] at hne;simp at hne
    rw [some_bind']
    have hia:i.toNat < a.length:=by omega
    refine .bind (Ok.geti (by omega)) fun _ _=>.bind (Ok.seti (by omega)) fun a' ha'=>hk14 _ ?_
    rw [i64w_id (by omega)]
    have ei:(i + 1).toNat=i.toNat + 1:=by omega
    have hc:=cp_new (y:=l[n + 1 + (m + 1)]) (z:=l[n + 1 + m]) q7 q8 (by rw [show n + 1 + (m + 1)=n + 1 + m + 1 by omega];exact hmem _ _ gz2) (by rw [show n + 1 + (m + 1)=n + 1 + m + 1 by omega];exact hprev _ _ gz2) (hnext _ _ _ gz2 gy2) hne
    refine ⟨by dsimp only;omega,by dsimp only;omega,ha'.2.trans q5,fun j hj=>?_,?_,?_⟩
    ·dsimp only at hj ⊢
     rw [ha'.1,List.getElem?_set_ne (by omega)]
     exact q6 j (by omega)
    ·dsimp only
     rw [ei,ha'.1,set_take hia]
     exact hc.1
    ·dsimp only
     rw [ei,ha'.1,set_take hia,htk _ _ gy2]
     exact hc.2
   ·have heq2:l[n + 1 + (m + 1)]=l[n + 1 + m]:=by
     refine (Object.eqd_iff _ _).1 ?_
     cases h:Object.eqd l[n + 1 + (m + 1)] l[n + 1 + m]
     ·rw [h] at heq2;simp at heq2
     ·rfl
    refine hk14 _ ⟨q1,by dsimp only;omega,q5,q6,q7,fun x=>?_⟩
    dsimp only
    rw [q8 x,htk _ _ gy2]
    constructor
    ·exact fun h=>List.mem_append_left _ h
    ·intro h
     rcases List.mem_append.1 h with h | h
     ·exact h
     ·rw [List.mem_singleton] at h
      rw [h,heq2];exact hmem _ _ gz2
  ·rintro ⟨i',a'⟩ ⟨p1,p2,p3,p4,p5,p6⟩
   dsimp only at p1 p2 p3 p4 p5 p6 ⊢
   rw [i64w_id (by omega)]
   refine hnx2 _ ⟨p1,by dsimp only;omega,by dsimp only;omega,by dsimp only;omega,p3,p4,p5,fun x=>?_⟩ (by dsimp only;omega)
   dsimp only
   rw [p6 x,show ((n + 1:Nat) + (((m + 1:Nat):Int) + 1)).toNat=n + 1 + (m + 1) + 1 by omega]
 ·rintro ⟨i,a⟩ ⟨p1,p2,p3,p4,p5⟩
  dsimp only at p1 p2 p3 p4 p5 ⊢
  refine .bind (Ok.chk (by omega)) fun _ _=>.bind (Ok.part ⟨by omega,by omega,by simp;omega⟩) fun c hc=>.ret ?_
  have:c=a.take i.toNat:=by
   rw [hc.1]
   simp only [Int.toNat_zero,List.drop_zero,Nat.sub_zero]
   rw [List.append_assoc,List.take_append_of_le_length (by simp;omega),List.take_take,Nat.min_self]
  rw [this]
  exact ⟨p4,p5⟩
end Go.AX.Q20
end
section
namespace Go.AX.Q20
open Go Go.AX
set_option maxRecDepth 8000
theorem ordered_plain {l:List Object} (hl:l.length ≤ 1000000):Ok (irr_Ordered l) fun r=>r.Pairwise (fun a b=>ltO a b=true)∧∀x,x ∈ r ↔ x ∈ l:=by
 unfold irr_Ordered slices_Clone_api_Object_api_Object
 rw [apnd_some (by decide) (by simp;omega),some_bind',some_bind',List.nil_append]
 refine .bind (sort_plain (by omega)) fun v2 h2=>.bind (compact_plain h2.2 (by rw [h2.1.length_eq];omega)) fun v3 h3=>.ret ⟨h3.1,fun x=>(h3.2 x).trans h2.1.mem_iff⟩
theorem sorted_plain {l:List Object} (hl:l.length ≤ 1000000):Ok (ref20_Sorted l) fun r=>r.Pairwise (fun a b=>ltO a b=true)∧∀x,x ∈ r ↔ x ∈ l:=by
 unfold ref20_Sorted
 refine .join (fun r=>r.Pairwise (fun a b=>ltO a b=true)∧∀x,x ∈ r ↔ x ∈ l) (fun k hk=>?_) fun r hr=>.ret hr
 refine .forX (fun i v=>v.Pairwise (fun a b=>ltO a b=true)∧(∀x,x ∈ v ↔ x ∈ l.take i)∧v.length ≤ i) ⟨.nil,by simp,by simp⟩ (fun v hv=>hk v ⟨hv.1,by simpa using hv.2.1⟩) fun next x i v hx hI hn=>?_
 obtain ⟨i1,i2,i3⟩:=hI
 have hil:=(List.getElem?_eq_some_iff.1 hx).1
 have hmt :∀y,y ∈ l.take (i + 1) ↔ y ∈ l.take i ∨ y=x:=by
  intro y
  rw [List.take_add_one,hx]
  simp
 refine .join (fun v'=>v'.Pairwise (fun a b=>ltO a b=true)∧(∀x,x ∈ v' ↔ x ∈ l.take (i + 1))∧v'.length ≤ i + 1) (fun k6 hk6=>?_) fun v' h=>hn _ h
 have hpos:=takeWhile_len_le (ltO · x) v
 rw [posR (p:=(ltO · x)) (fun y k4=>Option.bind (ref20_Cmp y x) fun v12=>k4 (cond true (decide (v12 < 0)) false)) (by omega) (fun y _ k=>by rw [ref20_Cmp_eq];rfl)]
 have hh:=ins_here ltO_tr ltO_irr (x:=x) i1
 obtain ⟨t1,t2⟩:=takeWhile_take (ltO · x) v
 refine .join (fun c=>c=true ↔ x ∈ v) (fun k15 hk15=>?_) fun c hc=>.ite (fun h=>?_) fun h=>?_
 ·by_cases hk:(v.takeWhile (ltO · x)).length < v.length
  ·rw [if_pos (by simpa using hk),geti_nat hk,some_bind']
   refine hk15 _ ?_
   rw [hh,List.getElem?_eq_getElem hk]
   simp only [cond_true,Object.eqd_iff,Option.some.injEq]
  ·rw [if_neg (by simpa using hk)]
   refine hk15 _ ?_
   rw [hh,List.getElem?_eq_none (by omega)]
   simp
 ·refine hk6 _ ⟨i1,fun y=>?_,by omega⟩
  rw [hmt,i2 y]
  refine ⟨.inl,fun q=>q.elim id fun e=>?_⟩
  rw [e];exact (i2 x).1 (hc.1 h)
 ·have hnx:x ∉ v:=fun q=>h (hc.2 q)
  simp only [Int.toNat_natCast,Int.toNat_zero,List.drop_zero,Nat.sub_zero]
  refine .bind (Ok.chk (by omega)) fun _ _=>.bind (Ok.apnd (by decide) (by simp;omega)) fun _ _=>.bind (Ok.apnd (by decide) (by simp;omega)) fun a ha=>.bind (Ok.chk (by omega)) fun _ _=>.bind (Ok.apnd (by decide) (by rw [ha];simp;omega)) fun b hb=>hk6 _ ?_
  have e:b=insS ltO v x:=by
   have e2:(List.drop (v.takeWhile (ltO · x)).length v).take (v.length - (v.takeWhile (ltO · x)).length)=v.dropWhile (ltO · x):=by
    rw [List.take_of_length_le (by simp),t2]
   rw [hb,ha,e2,t1]
   unfold insS
   simp
  rw [e]
  refine ⟨insS_sorted ltO_tr ltO_tot i1 hnx,fun y=>?_,by rw [insS_len];omega⟩
  rw [insS_mem,hmt,i2]
theorem strict_ext {l m:List Object} (h1:l.Pairwise fun a b=>ltO a b=true) (h2:m.Pairwise fun a b=>ltO a b=true) (h :∀x,x ∈ l ↔ x ∈ m):l=m:=
 sorted_ext (lt:=fun a b=>ltO a b=true) (fun a=>by simp [ltO_irr]) ltO_tr h1 h2 h
def cov (p q:Prefix):Bool:=decide (q.Len ≥ p.Len) && inB p q.Addr
theorem prefix_Covers_eq (p q:Prefix):prefix_Covers p q=some (cov p q):=by
 unfold prefix_Covers cov
 rw [joinP_def,prefix_Contains_eq,some_bind',cond_true]
 by_cases h:q.Len ≥ p.Len
 ·rw [if_pos (by simpa using h)];simp [h]
 ·rw [if_neg (by simpa using h)];simp [h]
theorem ref02_Covers_eq {p q:Prefix} (h:q.Addr.ok=true):ref02_Covers p q=some (cov p q):=by
 unfold ref02_Covers cov
 rw [joinP_def,ref02_Contains_eq h,some_bind',cond_true]
 by_cases h:q.Len ≥ p.Len
 ·rw [if_pos (by simpa using h)];simp [h]
 ·rw [if_neg (by simpa using h)];simp [h]
def pc (p:Prefix) (a:Int) (o:Object):Bool:=o.ASN == a && cov o.Prefix p
def permB (L:List Object) (p:Prefix) (a:Int):Bool:=L.any fun o=>pc p a o && decide (p.Len ≤ o.Max)
def permE (L:List Object) (p:Prefix) (a:Int):Int:=
 cond (goodB p) (cond (permB L p a) 0 (cond (L.any (pc p a)) 9 (cond (L.any fun o=>o.ASN == a) 7 11))) 1
def permBody (p:Prefix) (a:Int) (cv:Object→Option Bool) (next4:Int→Option Int) (x5:Object) (i6:Nat) (v3:Int):Option Int:=
 joinP (τ:=Int) (fun k7=>if (x5.ASN != a)=true then k7 v3 else Option.bind (cv x5) fun v8=>joinP (τ:=Int) (fun k9=>if (!v8)=true then joinP (τ:=Int) (fun k10=>if (v3 == 11)=true then k10 7 else k10 v3) (fun v11=>k9 v11) else if decide (x5.Max < p.Len)=true then k9 9 else some 0) (fun v12=>k7 v12)) (fun v13=>next4 v13)
theorem permBody_eq {p:Prefix} {a:Int} {cv:Object→Option Bool} {x:Object} (hc:cv x=some (cov x.Prefix p)) (next:Int→Option Int) (i:Nat) (v:Int) :
  permBody p a cv next x i v=cond (pc p a x) (cond (decide (p.Len ≤ x.Max)) (some 0) (next 9)) (cond (x.ASN == a) (next (if v=11 then 7 else v)) (next v)):=by
 unfold permBody
 rw [hc]
 show (if (x.ASN != a)=true then next v else if (!(cov x.Prefix p))=true then (if (v == 11)=true then next 7 else next v) else if decide (x.Max < p.Len)=true then next 9 else some 0)=_
 unfold pc
 by_cases h1:x.ASN=a
 ·cases cov x.Prefix p
  ·by_cases h2:v=11<;>simp [h1,h2]
  ·by_cases h2:x.Max < p.Len
   ·have:¬ p.Len ≤ x.Max:=by omega
    simp [h1,h2,this]
   ·have:p.Len ≤ x.Max:=by omega
    simp [h1,h2,this]
 ·have h3:(x.ASN == a)=false:=by simpa using h1
  rw [h3]
  simp [h1]
theorem permR (p:Prefix) (a:Int) (cv:Object→Option Bool) (hc :∀x,cv x=some (cov x.Prefix p)) :∀(l:List Object) (i:Nat) (v:Int),
  forR (σ:=Int) (fun v3=>some v3) (permBody p a cv) l i v
   = some (cond (permB l p a) 0 (cond (l.any (pc p a)) 9 (cond (l.any fun o=>o.ASN == a) (if v=11 then 7 else v) v)))
 | [],i,v=>rfl
 | x::t,i,v=>by
  show permBody p a cv (forR (fun v3=>some v3) (permBody p a cv) t (i + 1)) x i v=_
  rw [permBody_eq (hc x)]
  have e1:permB (x::t) p a=((pc p a x && decide (p.Len ≤ x.Max)) || permB t p a):=rfl
  rw [e1,List.any_cons,List.any_cons,permR p a cv hc t (i + 1),permR p a cv hc t (i + 1),permR p a cv hc t (i + 1)]
  have hp:pc p a x=true→(x.ASN == a)=true:=by
   intro h;unfold pc at h;rw [Bool.and_eq_true] at h;exact h.1
  by_cases h11:v=11
  ·subst h11
   revert hp
   cases pc p a x<;>cases decide (p.Len ≤ x.Max)<;>cases (x.ASN == a)<;>cases permB t p a<;>cases t.any (pc p a)<;>cases (t.any fun o=>o.ASN == a)<;>simp
  ·revert hp
   simp only [h11,if_false]
   cases pc p a x<;>cases decide (p.Len ≤ x.Max)<;>cases (x.ASN == a)<;>cases permB t p a<;>cases t.any (pc p a)<;>cases (t.any fun o=>o.ASN == a)<;>simp
theorem irr_Permits_eq (L:List Object) (p:Prefix) (a:Int):irr_Permits L p a=some (permE L p a):=by
 unfold irr_Permits permE
 rw [prefix_Valid_eq,some_bind']
 cases goodB p
 ·rfl
 ·rw [if_neg (by simp),joinP_def]
  exact permR p a _ (fun x=>prefix_Covers_eq _ _) L 0 11
theorem ref20_Permits_eq (L:List Object) (p:Prefix) (a:Int):ref20_Permits L p a=some (permE L p a):=by
 unfold ref20_Permits permE
 rw [ref02_Valid_eq,some_bind']
 cases hg:goodB p
 ·rfl
 ·rw [if_neg (by simp),joinP_def]
  exact permR p a _ (fun x=>ref02_Covers_eq ((goodB_iff p).1 hg).1) L 0 11
theorem any_ext {l m:List Object} (h :∀x,x ∈ l ↔ x ∈ m) (f:Object→Bool):l.any f=m.any f:=by
 rw [Bool.eq_iff_iff,List.any_eq_true,List.any_eq_true]
 exact ⟨fun ⟨x,h1,h2⟩=>⟨x,(h x).1 h1,h2⟩,fun ⟨x,h1,h2⟩=>⟨x,(h x).2 h1,h2⟩⟩
theorem permE_ext {l m:List Object} (h :∀x,x ∈ l ↔ x ∈ m) (p:Prefix) (a:Int):permE l p a=permE m p a:=by
 unfold permE permB
 rw [any_ext h,any_ext h,any_ext h]
theorem contains_eq (l:List Int) (n:Int):slices_Contains_int_int l n=some (l.any fun x=>n == x):=by
 unfold slices_Contains_int_int slices_Index_int_int
 exact contR (f:=fun x=>some (n == x)) fun _ _=>rfl
theorem has_eq (l:List Int) (n:Int):ref20_has l n=some (l.any fun x=>n == x):=by
 unfold ref20_has
 rw [joinP_def]
 have key :∀(l:List Int) (i:Nat),forR (σ:=Unit) (fun _=>some false) (fun next2 x3 i4 _=>if (x3 == n)=true then some true else next2 ()) l i ()=some (l.any fun x=>n == x):=by
  intro l
  induction l with
  | nil=>intro i;rfl
  | cons x t ih=>
   intro i
   show (if (x == n)=true then some true else forR _ _ t (i + 1) ())=_
   rw [ih,List.any_cons,show (n == x)=(x == n) from Bool.beq_comm]
   cases (x == n)<;>rfl
 exact key l 0
def own (s:List Int) (o:Object):Bool:=s.any fun x=>o.ASN == x
theorem irr_Own_1_eq (o:Object) (s:List Int):irr_Own_1 o s=some (!own s o,s):=by
 unfold irr_Own_1 own
 rw [contains_eq,some_bind']
theorem delete_plain {l:List Object} {s:List Int} (hl:l.length ≤ 1000000):Ok (slices_DeleteFunc_api_Object_api_Object__irr_Own_1 l s) fun r=>(∀x,x ∈ r.1 ↔ x ∈ l∧own s x=true)∧r.1.length ≤ l.length:=by
 have htk :∀(k:Nat) (y:Object),l[k]?=some y→l.take (k + 1)=l.take k ++ [y]:=by
  intro k y hk
  rw [List.take_add_one,hk];rfl
 unfold slices_DeleteFunc_api_Object_api_Object__irr_Own_1
 have hi:Ok (slices_IndexFunc_api_Object_api_Object_o__irr_Own_1 l s) fun r=>r.2=s∧((r.1=-1∧∀x ∈ l,own s x=true) ∨∃k:Nat,r.1=(k:Int)∧k < l.length∧(∀x ∈ l.take k,own s x=true)∧∀x,l[k]?=some x→own s x=false):=by
  unfold slices_IndexFunc_api_Object_api_Object_o__irr_Own_1
  refine .join (fun v=>v=s∧∀x ∈ l,own s x=true) (fun k hk=>?_) fun v hv=>.ret ⟨hv.1,.inl ⟨rfl,hv.2⟩⟩
  refine .forX (fun i v=>v=s∧∀x ∈ l.take i,own s x=true) ⟨rfl,by simp⟩ (fun v hv=>hk v ⟨hv.1,by simpa using hv.2⟩) fun next x i v hx hv hn=>?_
  obtain ⟨rfl,hv⟩:=hv
  rw [irr_Own_1_eq,some_bind']
  dsimp only
  refine .ite (fun h=>.ret ⟨rfl,.inr ⟨i,rfl,(List.getElem?_eq_some_iff.1 hx).1,hv,fun y hy=>?_⟩⟩) fun h=>hn _ ⟨rfl,fun y hy=>?_⟩
  ·rw [hx] at hy
   cases hy
   simpa using h
  ·rw [htk _ _ hx,List.mem_append] at hy
   rcases hy with hy | hy
   ·exact hv y hy
   ·rw [List.mem_singleton] at hy
    rw [hy];simpa using h
 refine .bind hi ?_
 rintro ⟨v1,v2⟩ ⟨h0,h⟩
 dsimp only at h0 h ⊢
 subst h0
 rcases h with ⟨rfl,h⟩ | ⟨k,rfl,hk,h1,h2⟩
 ·rw [if_pos (by simp)]
  exact .ret ⟨fun x=>⟨fun q=>⟨q,h x q⟩,fun q=>q.1⟩,Nat.le_refl _⟩
 rw [if_neg (by simp)]
 have gk:l[k]?=some l[k]:=List.getElem?_eq_getElem hk
 refine .join (fun p:Int×List Object×List Int=>0 ≤ p.1∧p.1 ≤ l.length∧p.2.1.length=l.length∧∀x,x ∈ p.2.1.take p.1.toNat ↔ x ∈ l∧own v2 x=true) (fun k3 hk3=>?_) ?_
 ·refine .whileI (fun p:Int×Int×List Object×List Int=>0 ≤ p.1∧p.1 ≤ p.2.1∧p.2.1 ≤ l.length∧p.2.2.1.length=l.length∧p.2.2.2=v2∧(∀j:Nat,p.2.1 ≤ j→p.2.2.1[j]?=l[j]?)∧∀x,x ∈ p.2.2.1.take p.1.toNat ↔ x ∈ l.take p.2.1.toNat∧own v2 x=true)
   (fun p=>(l.length - p.2.1).toNat) ⟨Int.natCast_nonneg k,by dsimp only;rw [i64w_id (by omega)];omega,by dsimp only;rw [i64w_id (by omega)];omega,rfl,rfl,fun _ _=>rfl,fun x=>?_⟩ (lt_fuel (by dsimp only;rw [i64w_id (by omega)];omega)) ?_
  ·dsimp only
   rw [i64w_id (by omega),show ((k:Int) + 1).toNat=k + 1 by omega,htk _ _ gk,Int.toNat_natCast,List.mem_append,List.mem_singleton]
   constructor
   ·exact fun q=>⟨.inl q,h1 x q⟩
   ·rintro ⟨q | q,q2⟩
    ·exact q
    ·rw [q,h2 _ gk] at q2;simp at q2
  rintro next ⟨i,j,a,s'⟩ ⟨q1,q2,q3,q4,q5,q6,q7⟩ hnx
  dsimp only at q1 q2 q3 q4 q5 q6 q7 ⊢
  subst q5
  refine .ite (fun hj=>?_) fun hj=>?_
  rotate_left
  ·simp only [decide_eq_true_eq] at hj
   refine hk3 (i,a,s') ⟨q1,by dsimp only;omega,q4,fun x=>?_⟩
   dsimp only
   rw [q7 x,show j.toNat=l.length by omega,List.take_length]
  simp only [decide_eq_true_eq] at hj
  obtain ⟨m,rfl⟩ :∃m:Nat,j=(m:Int):=⟨j.toNat,by omega⟩
  have gm:l[m]?=some l[m]:=List.getElem?_eq_getElem (by omega)
  have ga:geti a (m:Int)=some l[m]:=geti_of (by omega) (by rw [Int.toNat_natCast,q6 m (by omega)];exact gm)
  rw [ga,some_bind',irr_Own_1_eq,some_bind']
  dsimp only
  refine .join (fun p:Int×List Object=>0 ≤ p.1∧p.1 ≤ (m:Int) + 1∧p.2.length=l.length∧(∀j:Nat,(m:Int) + 1 ≤ j→p.2[j]?=l[j]?)∧∀x,x ∈ p.2.take p.1.toNat ↔ x ∈ l.take (m + 1)∧own s' x=true) (fun k12 hk12=>?_) ?_
  ·refine .ite (fun hd=>?_) fun hd=>hk12 (i,a) ⟨q1,by dsimp only;omega,q4,fun j hj=>q6 j (by omega),fun x=>?_⟩
   ·have hia:i.toNat < a.length:=by omega
    refine .bind (Ok.geti (by omega)) fun _ _=>.bind (Ok.seti (by omega)) fun a' ha'=>hk12 _ ?_
    rw [i64w_id (by omega)]
    refine ⟨by dsimp only;omega,by dsimp only;omega,ha'.2.trans q4,fun j hj=>?_,fun x=>?_⟩
    ·dsimp only
     rw [ha'.1,List.getElem?_set_ne (by omega)]
     exact q6 j (by omega)
    ·dsimp only
     rw [show (i + 1).toNat=i.toNat + 1 by omega,ha'.1,set_take hia,htk _ _ gm,List.mem_append,List.mem_append,q7 x,Int.toNat_natCast,List.mem_singleton]
     have:own s' l[m]=true:=by simpa using hd
     constructor
     ·rintro (q | q)
      ·exact ⟨.inl q.1,q.2⟩
      ·exact ⟨.inr q,by rw [q];exact this⟩
     ·rintro ⟨q | q,q2⟩
      ·exact .inl ⟨q,q2⟩
      ·exact .inr q
   ·dsimp only
    rw [htk _ _ gm,List.mem_append,q7 x,Int.toNat_natCast,List.mem_singleton]
    have:own s' l[m]=false:=by simpa using hd
    constructor
    ·exact fun q=>⟨.inl q.1,q.2⟩
    ·rintro ⟨q | q,q2⟩
     ·exact ⟨q,q2⟩
     ·rw [q,this] at q2;simp at q2
  ·rintro ⟨i',a'⟩ ⟨p1,p2,p3,p4,p5⟩
   dsimp only at p1 p2 p3 p4 p5 ⊢
   rw [i64w_id (by omega)]
   refine hnx _ ⟨p1,by dsimp only;omega,by dsimp only;omega,p3,rfl,p4,fun x=>?_⟩ (by dsimp only;omega)
   dsimp only
   rw [p5 x,show ((m:Int) + 1).toNat=m + 1 by omega]
 ·rintro ⟨i,a,s'⟩ ⟨p1,p2,p3,p4⟩
  dsimp only at p1 p2 p3 p4 ⊢
  refine .bind (Ok.chk (by omega)) fun _ _=>.bind (Ok.part ⟨by omega,by omega,by simp;omega⟩) fun c hc=>.ret ?_
  have:c=a.take i.toNat:=by
   rw [hc.1]
   simp only [Int.toNat_zero,List.drop_zero,Nat.sub_zero]
   rw [List.append_assoc,List.take_append_of_le_length (by simp;omega),List.take_take,Nat.min_self]
  dsimp only
  rw [this]
  exact ⟨p4,by simp;omega⟩
end Go.AX.Q20
end
section
namespace Go.AX.Q20
open Go Go.AX
set_option maxRecDepth 8000
theorem own_plain {r:Registry} {s:List Int} (hl:r.Objects.length ≤ 1000000):Ok (irr_Own r s) fun l=>l.Pairwise (fun a b=>ltO a b=true)∧∀x,x ∈ l ↔ x ∈ r.Objects∧own s x=true:=by
 unfold irr_Own slices_Clone_api_Object_api_Object
 rw [apnd_some (by decide) (by simp;omega),some_bind',some_bind',List.nil_append]
 refine .bind (delete_plain hl) ?_
 rintro ⟨a,b⟩ ⟨h1,h2⟩
 dsimp only at h1 h2 ⊢
 exact .bind (ordered_plain (by omega)) fun v hv=>.ret ⟨hv.1,fun x=>(hv.2 x).trans (h1 x)⟩
theorem ref20_own_plain {r:Registry} {s:List Int} (hl:r.Objects.length ≤ 1000000):Ok (ref20_Own r s) fun l=>l.Pairwise (fun a b=>ltO a b=true)∧∀x,x ∈ l ↔ x ∈ r.Objects∧own s x=true:=by
 unfold ref20_Own
 refine .join (fun v=>(∀x,x ∈ v ↔ x ∈ r.Objects∧own s x=true)∧v.length ≤ r.Objects.length) (fun k hk=>?_) fun v hv=>.bind (sorted_plain (by omega)) fun w hw=>.ret ⟨hw.1,fun x=>(hw.2 x).trans (hv.1 x)⟩
 refine .forX (fun i v=>(∀x,x ∈ v ↔ x ∈ r.Objects.take i∧own s x=true)∧v.length ≤ i) ⟨by simp,by simp⟩ (fun v hv=>hk v ⟨by simpa using hv.1,hv.2⟩) fun next x i v hx hv hn=>?_
 have htk:r.Objects.take (i + 1)=r.Objects.take i ++ [x]:=by rw [List.take_add_one,hx];rfl
 have hil:=(List.getElem?_eq_some_iff.1 hx).1
 rw [has_eq,some_bind']
 refine .join (fun v=>(∀x,x ∈ v ↔ x ∈ r.Objects.take (i + 1)∧own s x=true)∧v.length ≤ i + 1) (fun k7 hk7=>.ite (fun h=>?_) fun h=>hk7 _ ⟨fun y=>?_,by omega⟩) fun v' h=>hn _ h
 ·have h:own s x=true:=h
  refine .bind (Ok.apnd (by decide) (by simp;omega)) fun w hw=>hk7 _ ⟨fun y=>?_,by rw [hw];simp;omega⟩
  rw [hw,htk,List.mem_append,List.mem_append,hv.1 y,List.mem_singleton]
  constructor
  ·rintro (q | q)
   ·exact ⟨.inl q.1,q.2⟩
   ·exact ⟨.inr q,by rw [q];exact h⟩
  ·rintro ⟨q | q,q2⟩
   ·exact .inl ⟨q,q2⟩
   ·exact .inr q
 ·have h:own s x=false:=Bool.eq_false_iff.2 h
  rw [htk,List.mem_append,hv.1 y,List.mem_singleton]
  constructor
  ·exact fun q=>⟨.inl q.1,q.2⟩
  ·rintro ⟨q | q,q2⟩
   ·exact ⟨q,q2⟩
   ·rw [q,h] at q2;simp at q2
theorem own_both {r:Registry} {s:List Int} (hl:r.Objects.length ≤ 1000000) :∃l,irr_Own r s=some l∧ref20_Own r s=some l∧∀x,x ∈ l ↔ x ∈ r.Objects∧own s x=true:=by
 obtain ⟨a,h1,h2,h3⟩:=own_plain (s:=s) hl
 obtain ⟨b,g1,g2,g3⟩:=ref20_own_plain (s:=s) hl
 have:=strict_ext h2 g2 fun x=>(h3 x).trans (g3 x).symm
 subst this
 exact ⟨a,h1,g1,h3⟩
theorem same_refl (l:List Object):ref20_SameObjects l l=some true:=by
 suffices h:Ok (ref20_SameObjects l l) fun b=>b=true by
  obtain ⟨b,h1,rfl⟩:=h
  exact h1
 unfold ref20_SameObjects
 rw [if_neg (by simp)]
 refine .join (fun _=>True) (fun k hk=>?_) fun _ _=>.ret rfl
 refine .forX (fun _ _=>True) trivial (fun _ _=>hk _ trivial) fun next x i _ hx _ hn=>?_
 rw [geti_of (i:=(i:Int)) (by omega) (by rw [Int.toNat_natCast];exact hx),some_bind']
 refine .ite (fun h=>?_) fun _=>hn _ trivial
 rw [(Object.eqd_iff x x).2 rfl] at h
 simp at h
def dom (a b:Object):Bool:=!(Object.eqd a b) && (a.ASN == b.ASN) && decide (a.Max ≥ b.Max) && cov a.Prefix b.Prefix
def normE (s:List Object):List Object:=s.filter fun o=>!(s.any fun x=>dom x o)
theorem normal_1_eq (a b:Object):irr_Normal_1 a b=some (dom a b,b):=by
 unfold irr_Normal_1 dom
 rw [joinP_def,prefix_Covers_eq,some_bind']
 cases Object.eqd a b<;>cases (a.ASN == b.ASN)<;>cases decide (a.Max ≥ b.Max)<;>cases cov a.Prefix b.Prefix<;>rfl
theorem contains_1_eq (l:List Object) (x:Object):slices_ContainsFunc_api_Object_api_Object__irr_Normal_1 l x=some (l.any fun y=>dom y x,x):=by
 suffices h:Ok (slices_ContainsFunc_api_Object_api_Object__irr_Normal_1 l x) fun r=>r=(l.any fun y=>dom y x,x) by
  obtain ⟨b,h1,rfl⟩:=h
  exact h1
 unfold slices_ContainsFunc_api_Object_api_Object__irr_Normal_1 slices_IndexFunc_api_Object_api_Object__irr_Normal_1
 refine .bind (P:=fun r=>r.2=x∧(decide (r.1 ≥ 0)=l.any fun y=>dom y x)) ?_ fun r hr=>.ret (Prod.ext hr.2 hr.1)
 refine .join (fun v=>v=x∧l.any (fun y=>dom y x)=false) (fun k hk=>?_) fun v hv=>.ret ⟨hv.1,by rw [hv.2];rfl⟩
 refine .forX (fun i v=>v=x∧∀y ∈ l.take i,dom y x=false) ⟨rfl,by simp⟩ (fun v hv=>hk v ⟨hv.1,?_⟩) fun next y i v hy hv hn=>?_
 ·rw [List.any_eq_false]
  intro y hy
  rw [hv.2 y (by simpa using hy)];simp
 obtain ⟨rfl,hv⟩:=hv
 rw [normal_1_eq,some_bind']
 dsimp only
 refine .ite (fun h=>.ret ⟨rfl,?_⟩) fun h=>hn _ ⟨rfl,fun z hz=>?_⟩
 ·dsimp only
  rw [List.any_eq_true.2 ⟨y,List.mem_of_getElem? hy,h⟩]
  simp
 ·rw [List.take_add_one,hy] at hz
  simp only [Option.toList_some,List.mem_append,List.mem_singleton] at hz
  rcases hz with hz | hz
  ·exact hv z hz
  ·rw [hz];simpa using h
theorem filter_take {α:Type} {s:List α} {i:Nat} {x:α} (hx:s[i]?=some x) (f:α→Bool):(s.take (i + 1)).filter f=(s.take i).filter f ++ (if f x=true then [x] else []):=by
 rw [List.take_add_one,hx,List.filter_append]
 congr 1
 show [x].filter f=_
 cases h:f x<;>simp [h]
theorem normal_plain {l:List Object} (hl:l.length ≤ 1000000):Ok (irr_Normal l) fun r=>∃s,s.Pairwise (fun a b=>ltO a b=true)∧(∀x,x ∈ s ↔ x ∈ l)∧r=normE s:=by
 unfold irr_Normal
 refine .bind (ordered_plain hl) fun s hs=>?_
 have hsl:s.length ≤ 1000000000:=by
  have:s.Nodup:=hs.1.imp fun {a b} h e=>by rw [e,ltO_irr] at h;simp at h
  have:=@nodup_len _ (fun a b=>Classical.propDecidable (a=b)) s l this fun x hx=>(hs.2 x).1 hx
  omega
 refine .join (fun v=>v=normE s) (fun k hk=>?_) fun v hv=>.ret ⟨s,hs.1,hs.2,hv⟩
 refine .forX (fun i v=>v=(s.take i).filter fun o=>!(s.any fun x=>dom x o)) (by simp) (fun v hv=>hk v (by rw [hv,List.take_length];rfl)) fun next x i v hx hv hn=>?_
 have hil:=(List.getElem?_eq_some_iff.1 hx).1
 have hvl:v.length ≤ i:=by rw [hv];exact Nat.le_trans (List.length_filter_le _ _) (by simp;omega)
 rw [contains_1_eq,some_bind']
 dsimp only
 refine .join (fun v=>v=(s.take (i + 1)).filter fun o=>!(s.any fun x=>dom x o)) (fun k9 hk9=>.ite (fun h=>?_) fun h=>hk9 _ ?_) fun v' h=>hn _ h
 ·refine .bind (Ok.apnd (by decide) (by simp;omega)) fun w hw=>hk9 _ ?_
  rw [hw,hv,filter_take hx,if_pos h]
 ·rw [hv,filter_take hx,if_neg h,List.append_nil]
theorem ref20_normal_plain {l:List Object} (hl:l.length ≤ 1000000) (ho :∀o ∈ l,o.Prefix.Addr.ok=true):Ok (ref20_Normal l) fun r=>∃s,s.Pairwise (fun a b=>ltO a b=true)∧(∀x,x ∈ s ↔ x ∈ l)∧r=normE s:=by
 unfold ref20_Normal
 refine .bind (sorted_plain hl) fun s hs=>?_
 have hsl:s.length ≤ 1000000000:=by
  have:s.Nodup:=hs.1.imp fun {a b} h e=>by rw [e,ltO_irr] at h;simp at h
  have:=@nodup_len _ (fun a b=>Classical.propDecidable (a=b)) s l this fun x hx=>(hs.2 x).1 hx
  omega
 refine .join (fun v=>v=normE s) (fun k hk=>?_) fun v hv=>.ret ⟨s,hs.1,hs.2,hv⟩
 refine .forX (fun i v=>v=(s.take i).filter fun o=>!(s.any fun x=>dom x o)) (by simp) (fun v hv=>hk v (by rw [hv,List.take_length];rfl)) fun next x i v hx hv hn=>?_
 have hil:=(List.getElem?_eq_some_iff.1 hx).1
 have hxo:=ho x ((hs.2 x).1 (List.mem_of_getElem? hx))
 have hvl:v.length ≤ i:=by rw [hv];exact Nat.le_trans (List.length_filter_le _ _) (by simp;omega)
 refine .join (fun v=>v=(s.take (i + 1)).filter fun o=>!(s.any fun x=>dom x o)) (fun k7 hk7=>?_) fun v' h=>hn _ h
 refine .join (fun c=>c=s.any fun y=>dom y x) (fun k8 hk8=>?_) fun c hc=>?_
 ·refine .forX (fun j c=>c=(s.take j).any fun y=>dom y x) (by simp) (fun c hc=>hk8 c (by rw [hc,List.take_length])) fun next2 y j c hy hc hn2=>?_
  have e:((s.take (j + 1)).any fun y=>dom y x)=(c || dom y x):=by
   rw [hc,List.take_add_one,hy,List.any_append]
   congr 1
   simp
  refine .join (fun b=>b=(c || dom y x)) (fun k13 hk13=>?_) fun b hb=>hn2 _ (hb.trans e.symm)
  rw [ref02_Covers_eq hxo,some_bind']
  unfold dom at hk13
  revert hk13
  cases c<;>cases Object.eqd y x<;>cases (y.ASN == x.ASN)<;>cases decide (y.Max ≥ x.Max)<;>cases cov y.Prefix x.Prefix<;>exact fun hk13=>hk13 _ rfl
 ·subst hc
  refine .join (fun v=>v=(s.take (i + 1)).filter fun o=>!(s.any fun x=>dom x o)) (fun k9 hk9=>.ite (fun h=>?_) fun h=>hk9 _ ?_) fun v' h=>hk7 _ h
  ·refine .bind (Ok.apnd (by decide) (by simp;omega)) fun w hw=>hk9 _ ?_
   rw [hw,hv,filter_take hx,if_pos h]
  ·rw [hv,filter_take hx,if_neg h,List.append_nil]
theorem mod_small (v:Int):Ok (make_Mod v 7) fun r=>0 ≤ r∧r < 7:=make_Mod_plain (by omega)
theorem any_own {l L:List Object} {s:List Int} {a:Int} (h :∀x,x ∈ l ↔ x ∈ L∧own s x=true) (ha:(s.any fun x=>a == x)=true) {f:Object→Bool} (hf :∀x,f x=true→x.ASN=a):l.any f=L.any f:=by
 rw [Bool.eq_iff_iff,List.any_eq_true,List.any_eq_true]
 refine ⟨fun ⟨x,h1,h2⟩=>⟨x,((h x).1 h1).1,h2⟩,fun ⟨x,h1,h2⟩=>⟨x,(h x).2 ⟨h1,?_⟩,h2⟩⟩
 unfold own
 rw [hf x h2];exact ha
theorem permE_own {l L:List Object} {s:List Int} {a:Int} (h :∀x,x ∈ l ↔ x ∈ L∧own s x=true) (ha:(s.any fun x=>a == x)=true) (p:Prefix):permE l p a=permE L p a:=by
 unfold permE permB
 have hp :∀x,pc p a x=true→x.ASN=a:=by
  intro x hx
  unfold pc at hx
  rw [Bool.and_eq_true] at hx
  simpa using hx.1
 rw [any_own h ha (f:=fun o=>pc p a o && decide (p.Len ≤ o.Max)) (fun x hx=>hp x (by rw [Bool.and_eq_true] at hx;exact hx.1)),any_own h ha (f:=pc p a) hp,any_own h ha (f:=fun o=>o.ASN == a) (fun x hx=>by simpa using hx)]
theorem permE_zero {L:List Object} {p:Prefix} {a:Int}:permE L p a=0 ↔ goodB p=true∧permB L p a=true:=by
 unfold permE
 cases goodB p<;>cases permB L p a<;>cases L.any (pc p a)<;>cases (L.any fun o=>o.ASN == a)<;>simp
theorem pick_plain {r:Registry} {p:Prefix} {d:Deck} (hd:Dk d) (hlo:r.Objects.length ≤ 512) (hp:goodB p=true) (hob :∀o ∈ r.Objects,objB o=true) {Q:Bool→Prop} {K:Prefix→Option Bool} (hK :∀p,goodB p=true→Ok (K p) Q) :
  Ok (joinP (τ:=Bool×Deck) (fun k9=>if (decide ((r.Objects.length:Int) > 0))=true then Option.bind (make_Deck_Next d 3) fun (v10,v11)=>k9 ((cond true (decide (v10 > 0)) false),v11) else k9 (false,d)) fun (v12,v13)=>
   joinP (τ:=Prefix) (fun k14=>if v12=true then Option.bind (make_Deck_Next v13 (r.Objects.length:Int)) fun (v15,v16)=>Option.bind (geti r.Objects v15) fun v17=>k14 v17.Prefix else k14 p) fun v18=>K v18) Q:=by
 refine .join (fun q:Bool×Deck=>Dk q.2∧(q.1=true→0 < r.Objects.length)) (fun k hk=>.ite (fun h=>?_) fun _=>hk _ ⟨hd,by simp⟩) ?_
 ·simp only [decide_eq_true_eq] at h
  refine .bind (make_Next_plain hd (by omega)) ?_
  rintro ⟨a,d2⟩ ⟨_,_,h2⟩
  exact hk _ ⟨h2,fun _=>by omega⟩
 ·rintro ⟨c,d2⟩ ⟨h1,h2⟩
  dsimp only at h1 h2 ⊢
  refine .join (fun p=>goodB p=true) (fun k hk=>.ite (fun h=>?_) fun _=>hk _ hp) fun p hp=>hK p hp
  have:=h2 h
  refine .bind (make_Next_plain h1 (by omega)) ?_
  rintro ⟨a,d3⟩ ⟨b1,b2,_⟩
  dsimp only at b1 b2 ⊢
  refine .bind (Ok.geti ⟨b1,b2⟩) fun o ho=>hk _ ?_
  have:=hob o ho.1
  unfold objB at this
  simp only [Bool.and_eq_true] at this
  exact this.1.1.1
theorem IrrMore_true (a0 a1:List Int) (a2:Int) (w0:a0.length ≤ maxLen∧a0.length * 8 ≤ reachBytes∧∀y ∈ a0,I64 y) (w1:a1.length ≤ maxLen∧a1.length * 8 ≤ reachBytes∧∀y ∈ a1,I64 y) (w2:I64 a2) :
  law20_IrrMore a0 a1 a2=some true:=by
 have hm:maxLen=9223372036854775807:=rfl
 suffices h:Ok (law20_IrrMore a0 a1 a2) fun b=>b=true by
  obtain ⟨b,h1,rfl⟩:=h
  exact h1
 unfold law20_IrrMore make_New
 rw [some_bind']
 refine .bind (make_Registry_plain ⟨by simp,by simp only;omega⟩) ?_
 rintro ⟨r,d⟩ ⟨hr,hd⟩
 dsimp only at hr hd ⊢
 rw [some_bind']
 refine .bind (make_Registry_plain ⟨by simp,by simp only;omega⟩) ?_
 rintro ⟨more,d2⟩ ⟨hmore,_⟩
 dsimp only at hmore ⊢
 refine .bind (make_Prefix_plain hd) ?_
 rintro ⟨p0,d3⟩ ⟨hp0,hd3⟩
 dsimp only at hp0 hd3 ⊢
 obtain ⟨_,hob,_,hlo⟩:=regB_iff.1 hr
 obtain ⟨_,_,_,hlo2⟩:=regB_iff.1 hmore
 refine pick_plain hd3 hlo ((goodB_iff _).2 hp0) hob fun p hp=>?_
 refine .bind (make_Mod_plain (by omega)) fun v19 h19=>?_
 rw [i64w_id (by omega)]
 obtain ⟨l,e1,_,e3⟩:=own_both (r:=r) (s:=[1 + v19]) (by omega)
 have hE:permE l p (1 + v19)=permE r.Objects p (1 + v19):=permE_own e3 (by simp) p
 have hnil:permE [] p (1 + v19)=11:=by unfold permE;rw [hp];rfl
 simp only [irr_Permits_eq,some_bind',awake_eq,hnil]
 refine .bind (Ok.apnd (by decide) (by simp;omega)) fun _ _=>.bind (Ok.apnd (by decide) (by omega)) fun v21 h21=>?_
 rw [e1,some_bind',hE]
 have h22:permE r.Objects p (1 + v19)=0→permE v21 p (1 + v19)=0:=by
  intro h
  rw [permE_zero] at h ⊢
  refine ⟨h.1,?_⟩
  have h2:=h.2
  unfold permB at h2 ⊢
  rw [h21,List.any_append,h2];rfl
 refine .join (fun b=>b=true) (fun k hk=>.ite (fun h=>?_) fun h=>?_) fun b hb=>.ret hb
 ·exact .ite (fun _=>.ite (fun _=>hk _ rfl) fun h=>absurd rfl h) fun h=>absurd (by simp) h
 ·have h0:permE r.Objects p (1 + v19)=0:=by simpa using h
  rw [h22 h0,h0]
  exact .ite (fun _=>.ite (fun _=>.ite (fun _=>hk _ rfl) fun h=>absurd rfl h) fun h=>absurd (by simp) h) fun h=>absurd (by simp) h
theorem normal_both {l:List Object} (hl:l.length ≤ 1000000) (ho :∀o ∈ l,objB o=true) :∃s,irr_Normal l=some (normE s)∧ref20_Normal l=some (normE s)∧s.Pairwise (fun a b=>ltO a b=true)∧∀x,x ∈ s ↔ x ∈ l:=by
 obtain ⟨a,h1,s,h2,h3,h4⟩:=normal_plain hl
 obtain ⟨b,g1,t,g2,g3,g4⟩:=ref20_normal_plain hl fun o h=>by
  have:=ho o h
  unfold objB at this
  simp only [Bool.and_eq_true] at this
  exact ((goodB_iff _).1 this.1.1.1).1
 have e:=strict_ext h2 g2 fun x=>(h3 x).trans (g3 x).symm
 subst e
 exact ⟨s,by rw [h1,h4],by rw [g1,g4],h2,h3⟩
theorem IrrObjects_true (a0 a1:List Int) (a2:Prefix) (a3:Int) (w0:a0.length ≤ maxLen∧a0.length * 8 ≤ reachBytes∧∀y ∈ a0,I64 y) (w1:a1.length ≤ maxLen∧a1.length * 8 ≤ reachBytes∧∀y ∈ a1,I64 y) (w2:a2.wf) (w3:I64 a3) :
  law20_IrrObjects a0 a1 a2 a3=some true:=by
 have hm:maxLen=9223372036854775807:=rfl
 suffices h:Ok (law20_IrrObjects a0 a1 a2 a3) fun b=>b=true by
  obtain ⟨b,h1,rfl⟩:=h
  exact h1
 unfold law20_IrrObjects make_New
 rw [awake_eq]
 refine .ite (fun _=>.ret rfl) fun h40=>?_
 simp only [decide_eq_true_eq] at h40
 rw [some_bind']
 refine .bind (make_Registry_plain ⟨by simp,by simp only;omega⟩) ?_
 rintro ⟨r,d⟩ ⟨hr,hd⟩
 dsimp only at hr hd ⊢
 refine .bind (make_Prefix_plain hd) ?_
 rintro ⟨p0,d3⟩ ⟨hp0,hd3⟩
 dsimp only at hp0 hd3 ⊢
 obtain ⟨_,hob,_,hlo⟩:=regB_iff.1 hr
 refine .join (fun q:Bool×Deck=>Dk q.2∧(q.1=true→0 < r.Objects.length)) (fun k hk=>.ite (fun h=>?_) fun _=>hk _ ⟨hd3,by simp⟩) ?_
 ·simp only [decide_eq_true_eq] at h
  refine .bind (make_Next_plain hd3 (by omega)) ?_
  rintro ⟨a,d2⟩ ⟨_,_,h2⟩
  exact hk _ ⟨h2,fun _=>by omega⟩
 rintro ⟨c,d2⟩ ⟨h1,h2⟩
 dsimp only at h1 h2 ⊢
 refine .join (fun _=>True) (fun k hk=>.ite (fun h=>?_) fun _=>hk _ trivial) fun p _=>?_
 ·have:=h2 h
  refine .bind (make_Next_plain h1 (by omega)) ?_
  rintro ⟨a,d4⟩ ⟨b1,b2,hd4⟩
  dsimp only at b1 b2 hd4 ⊢
  refine .bind (Ok.geti ⟨b1,b2⟩) fun o ho=>?_
  refine .bind (make_Next_plain hd4 (by omega)) ?_
  rintro ⟨b,d5⟩ _
  dsimp only
  obtain ⟨x,e,hx,_⟩:=ref02_Make_eq o.Prefix.Addr (if (32:Int) < (i64w ((i64w (o.Max + b)) - 1)) then 32 else (i64w ((i64w (o.Max + b)) - 1)))
  rw [hx,some_bind']
  exact hk _ trivial
 refine .bind (Ok.chk (by omega)) fun _ _=>?_
 refine .join (fun _=>True) (fun k hk=>?_) fun v29 _=>?_
 ·refine .forI (fun _ s=>s.length=a1.length) (by simp) (fun _ _=>hk _ trivial) fun next x i s hi _ hs hn=>?_
  refine .bind (make_Mod_plain (by omega)) fun _ _=>.bind (Ok.geti (by omega)) fun _ _=>.bind (Ok.seti (by omega)) fun s' hs'=>hn _ (hs'.2.trans hs)
 refine .join (fun _=>True) (fun k hk=>?_) fun _ _=>?_
 ·refine .for_ (fun _=>hk _ trivial) fun next x i _ _ _ hn=>?_
  obtain ⟨l,e1,e2,_⟩:=own_both (r:=r) (s:=x) (by omega)
  rw [e1,e2,some_bind',some_bind',same_refl,some_bind']
  exact .ite (fun h=>absurd h (by simp)) fun _=>hn _
 refine .join (fun _=>True) (fun k hk=>?_) fun _ _=>?_
 ·refine .for_ (fun _=>hk _ trivial) fun next x i _ _ _ hn=>?_
  refine .join (fun _=>True) (fun k2 hk2=>?_) fun _ _=>hn _
  refine .bind (make_Mod_plain (by omega)) fun v42 _=>?_
  refine .join (fun _=>True) (fun k3 hk3=>?_) fun _ _=>hk2 _ trivial
  refine .for_ (fun _=>hk3 _ trivial) fun next2 y j _ _ _ hn2=>?_
  rw [irr_Permits_eq,ref20_Permits_eq,some_bind',some_bind']
  exact .ite (fun h=>absurd h (by simp)) fun _=>hn2 _
 obtain ⟨s,e1,e2,_⟩:=normal_both (l:=r.Objects) (by omega) hob
 refine .join (fun b=>b=true) (fun k hk=>?_) fun b hb=>.ret hb
 rw [e1,e2,some_bind',some_bind',same_refl,some_bind',some_bind']
 exact .ite (fun _=>hk _ rfl) fun h=>absurd rfl h
theorem exp_len {L:List Set} (h:Mod L) {n:ByteArray} {a:List Int} {m:List ByteArray} (e:Exp L n a m):a.length ≤ 4096:=by
 have key :∀(l:List Set),(∀s ∈ l,s.ASNs.length ≤ 64)→(l.flatMap (·.ASNs)).length ≤ 64 * l.length:=by
  intro l
  induction l with
  | nil=>intro _;simp
  | cons x t ih=>
   intro hx
   have:=ih fun s hs=>hx s (List.mem_cons_of_mem _ hs)
   have:=hx x (by simp)
   simp only [List.flatMap_cons,List.length_append,List.length_cons]
   omega
 have h1:=key L h.a
 have h2:=h.n
 have hnd:a.Nodup:=e.pa.imp fun {x y} h e=>by rw [e,ltI_irr] at h;simp at h
 have:=nodup_len hnd (m:=L.flatMap (·.ASNs)) fun x hx=>by
  obtain ⟨s,hs,_,h3⟩:=(e.am x).1 hx
  exact List.mem_flatMap.2 ⟨s,hs,h3⟩
 omega
theorem permitted_both {r:Registry} {h:Int} {n:ByteArray} {p:Prefix} {o:Int} (hz :∀s ∈ r.Sets,SetSz s) (hn:n.size ≤ maxLen) :∃v,irr_Permitted r h n p o=some v∧ref20_Permitted r h n p o=some v:=by
 suffices hs:Ok (irr_Permitted r h n p o) fun v=>ref20_Permitted r h n p o=some v by
  obtain ⟨v,h1,h2⟩:=hs
  exact ⟨v,h1,h2⟩
 unfold irr_Permitted ref20_Permitted
 rw [irr_Valid_eq hz,ref20_Valid_eq hz,some_bind',some_bind']
 cases hv:regB r
 ·exact .ret rfl
 rw [if_neg (by simp),if_neg (by simp),joinP_def,joinP_def]
 obtain ⟨_,_,_,hlo⟩:=regB_iff.1 hv
 have key :∀v:List Int,Ok (Option.bind (slices_Contains_int_int v o) fun v8=>if (!v8)=true then some 17 else Option.bind (irr_Own r v) fun v9=>Option.bind (irr_Permits v9 p o) fun v10=>some v10)
   fun w=>(Option.bind (ref20_has v o) fun v8=>if (!v8)=true then some 17 else Option.bind (ref20_Own r v) fun v9=>Option.bind (ref20_Permits v9 p o) fun v10=>some v10)=some w:=by
  intro v
  obtain ⟨l,e1,e2,_⟩:=own_both (r:=r) (s:=v) (by omega)
  rw [contains_eq,has_eq,e1,e2]
  simp only [some_bind',irr_Permits_eq,ref20_Permits_eq]
  cases (v.any fun x=>o == x)
  ·exact .ret rfl
  ·exact .ret rfl
 by_cases he:(!(n.toList == (ByteArray.mk (List.toArray List.nil)).toList))=true
 ·rw [if_pos he,if_pos he]
  obtain ⟨a,m,e,e1,e2⟩:=exp_both hz hn
  rw [e1,e2,some_bind',some_bind']
  dsimp only
  by_cases hx:(e != 0)=true
  ·rw [if_pos hx,if_pos hx];exact .ret rfl
  ·rw [if_neg hx,if_neg hx]
   have ha:a.length ≤ 1000000:=by
    obtain ⟨hm,hnum⟩:=regB_mod hv
    obtain ⟨⟨a',m',e'⟩,g1,g2⟩:=irr_Expand_plain hm hz hn hnum hv
    rw [e1] at g1
    simp only [Option.some.injEq,Prod.mk.injEq] at g1
    obtain ⟨rfl,rfl,rfl⟩:=g1
    rcases g2 with ⟨_,g2⟩ | ⟨_,_,_,g2⟩
    ·simp only [Prod.mk.injEq] at g2
     rw [g2.1];simp
    ·have:=exp_len hm g2
     simp only at this
     omega
   rw [apnd_some (by decide) (by simp;omega),some_bind',some_bind']
   exact key _
 ·rw [if_neg he,if_neg he]
  exact key _
theorem IrrPermitted_true (a0:Registry) (a1:List Int) (a2 a3 a4 a5:Int) (w0:a0.wf) (w1:a1.length ≤ maxLen∧a1.length * 8 ≤ reachBytes∧∀y ∈ a1,I64 y) (w2:I64 a2) (w3:I64 a3) (w4:I64 a4) (w5:I64 a5) :
  law20_IrrPermitted a0 a1 a2 a3 a4 a5=some true:=by
 have hm:maxLen=9223372036854775807:=rfl
 have hraw :∀s ∈ a0.Sets,SetSz s:=by
  intro s hs
  have h1:=w0.1.2.2 s hs
  exact ⟨h1.1.1,fun x hx=>(h1.2.2.1.2.2 x hx).1⟩
 suffices h:Ok (law20_IrrPermitted a0 a1 a2 a3 a4 a5) fun b=>b=true by
  obtain ⟨b,h1,rfl⟩:=h
  exact h1
 unfold law20_IrrPermitted
 have:=light_tt a0
 refine .bind Ok.of fun v1 _=>?_
 rw [awake_eq]
 refine .ite (fun _=>.ret rfl) fun _=>?_
 unfold make_New
 rw [some_bind']
 refine .bind (make_Registry_plain ⟨by simp,by simp only;omega⟩) ?_
 rintro ⟨r,d⟩ ⟨hr,hd⟩
 dsimp only at hr hd ⊢
 refine .bind (make_Prefix_plain hd) ?_
 rintro ⟨p0,d3⟩ ⟨hp0,hd3⟩
 dsimp only at hp0 hd3 ⊢
 obtain ⟨⟨_,hsb⟩,hob,_,hlo⟩:=regB_iff.1 hr
 refine pick_plain hd3 hlo ((goodB_iff _).2 hp0) hob fun p hp=>?_
 refine .bind (bent_ok hr a4 a5) fun x hx=>?_
 have hrz :∀s ∈ r.Sets,SetSz s:=fun s hs=>setB_size (hsb s hs)
 refine .join (fun _=>True) (fun k hk=>?_) fun _ _=>.ret rfl
 refine .for_ (fun _=>hk _ trivial) fun next y i _ _ hy hn=>?_
 have hyz :∀s ∈ y.Sets,SetSz s:=by
  simp only [List.mem_cons,List.not_mem_nil,or_false] at hy
  rcases hy with rfl | rfl | rfl
  ·exact hraw
  ·exact hrz
  ·exact hx
 refine .join (fun _=>True) (fun k2 hk2=>?_) fun _ _=>hn _
 refine .join (fun _=>True) (fun k3 hk3=>?_) fun _ _=>hk2 _ trivial
 refine .for_ (fun _=>hk3 _ trivial) fun next2 n j _ _ hnm hn2=>?_
 have hnz:n.size ≤ maxLen:=by
  simp only [List.mem_cons,List.not_mem_nil,or_false] at hnm
  rcases hnm with rfl | rfl | rfl | rfl
  all_goals exact small_size (by simp)
 refine .join (fun _=>True) (fun k4 hk4=>?_) fun _ _=>hn2 _
 refine .bind (make_Mod_plain (by omega)) fun v29 _=>.bind (make_Mod_plain (by omega)) fun v30 _=>?_
 refine .join (fun _=>True) (fun k5 hk5=>?_) fun _ _=>hk4 _ trivial
 refine .for_ (fun _=>hk5 _ trivial) fun next3 w m _ _ _ hn3=>?_
 obtain ⟨v,e1,e2⟩:=permitted_both (r:=y) (h:=w.e0) (n:=n) (p:=p) (o:=w.e1) hyz hnz
 rw [e1,e2,some_bind',some_bind']
 exact .ite (fun h=>absurd h (by simp)) fun _=>hn3 _
end Go.AX.Q20
end
section
namespace Go.AX.Q20
open Go Go.AX
set_option maxRecDepth 8000
theorem make_Next_po {d:Deck} {n:Int} (hn:1 ≤ n∧n ≤ 4611686018427387904):Po (make_Deck_Next d n) fun r=>0 ≤ r.1∧r.1 < n:=by
 unfold make_Deck_Next
 exact .ite (fun _=>.ret ⟨by simp,by simp only;omega⟩) fun _=>.bind fun v _=>.bindP (make_Mod_plain hn).po fun r hr=>.ret hr
theorem make_Object_po {d:Deck}:Po (make_Deck_Object d) fun r=>r.1.ASN ≤ 6:=by
 unfold make_Deck_Object
 refine .bind fun ⟨p,d⟩ _=>.sel (fun k hk=>.ite (fun _=>hk _) fun _=>hk _) fun w=>.bind fun ⟨a,d⟩ _=>.bind fun ⟨b,d⟩ _=>.bindP (make_Next_po (by omega)) fun ⟨c,d⟩ hc=>.ret ?_
 dsimp only at hc ⊢
 rw [i64w_id (by omega)]
 omega
theorem make_Registry_po {d:Deck}:Po (make_Deck_Registry d) fun r=>∀o ∈ r.1.Objects,o.ASN ≤ 6:=by
 unfold make_Deck_Registry
 refine .bind fun ⟨c,d⟩ _=>.sel (fun k hk=>?_) fun ⟨d,l⟩=>?_
 ·refine .while_ (fun _=>True) trivial fun next ⟨v,d,l⟩ _ hn=>.ite (fun _=>?_) fun _=>hk _
  refine .sel (fun k2 hk2=>?_) fun ⟨d,l⟩=>hn _ trivial
  refine .bind fun nm _=>.bind fun ⟨a,d⟩ _=>.sel (fun k3 hk3=>?_) fun ⟨d,asns⟩=>.bind fun ⟨b,d⟩ _=>.sel (fun k3 hk3=>?_) fun ⟨d,sets⟩=>.bind fun _ _=>hk2 _
  ·exact .while_ (fun _=>True) trivial fun nx ⟨v,d,l⟩ _ hnx=>.ite (fun _=>.bind fun ⟨u,d⟩ _=>.bind fun _ _=>hnx _ trivial) fun _=>hk3 _
  ·exact .while_ (fun _=>True) trivial fun nx ⟨v,d,l⟩ _ hnx=>.ite (fun _=>.bind fun ⟨u,d⟩ _=>.bind fun _ _=>.bind fun _ _=>hnx _ trivial) fun _=>hk3 _
 ·refine .bind fun ⟨b,d⟩ _=>.join (fun p:Deck×List Object=>∀o ∈ p.2,o.ASN ≤ 6) (fun k hk=>?_) fun ⟨d,os⟩ h=>.ret h
  refine .while_ (fun p:Int×Deck×List Object=>∀o ∈ p.2.2,o.ASN ≤ 6) (by simp) fun next ⟨v,d,l⟩ hl hn=>.ite (fun _=>?_) fun _=>hk _ hl
  refine .bindP make_Object_po fun ⟨o,d⟩ ho=>.bindP Po.apnd fun l2 hl2=>hn _ ?_
  dsimp only at hl ho ⊢
  rw [hl2]
  intro x hx
  rcases List.mem_append.1 hx with hx | hx
  ·exact hl x hx
  ·rw [List.mem_singleton] at hx
   rw [hx];exact ho
theorem cut_cut_le {a:Addr} (h:a.ok=true) {n m:Nat} (hnm:n ≤ m) (hm:m ≤ a.w):(a.cut m).cut n=a.cut n:=by
 have hs:=n_small h
 have hw:(a.cut m).w=a.w:=by unfold Addr.w;rw [cut_v6]
 have hn:(a.cut m).n=a.n / 2 ^ (a.w - m) * 2 ^ (a.w - m):=mkA_n (Nat.lt_of_le_of_lt (cut_le a m) hs)
 have e:a.n / 2 ^ (a.w - m) * 2 ^ (a.w - m) / 2 ^ (a.w - n)=a.n / 2 ^ (a.w - n):=by
  have e2:a.w - n=(a.w - m) + (m - n):=by omega
  rw [e2,Nat.pow_add,← Nat.div_div_eq_div_mul,← Nat.div_div_eq_div_mul,Nat.mul_div_cancel _ (Nat.two_pow_pos _)]
 show mkA (a.cut m).V6 ((a.cut m).n / 2 ^ ((a.cut m).w - n) * 2 ^ ((a.cut m).w - n))=mkA a.V6 (a.n / 2 ^ (a.w - n) * 2 ^ (a.w - n))
 rw [hw,hn,e,cut_v6]
theorem cov_iff {p q:Prefix}:cov p q=true ↔ p.Len ≤ q.Len∧0 ≤ p.Len∧p.Len ≤ q.Addr.w∧q.Addr.cut p.Len.toNat=p.Addr:=by
 unfold cov inB
 rw [Bool.and_eq_true,Bool.and_eq_true,Addr.eqd_iff,decide_eq_true_eq,decide_eq_true_eq]
 constructor
 ·rintro ⟨h1,⟨h2,h3⟩,h4⟩;exact ⟨h1,h2,h3,h4⟩
 ·rintro ⟨h1,h2,h3,h4⟩;exact ⟨h1,⟨h2,h3⟩,h4⟩
theorem cov_refl {p:Prefix} (h:goodP p):cov p p=true:=cov_iff.2 ⟨Int.le_refl _,h.2.1,h.2.2.1,h.2.2.2⟩
theorem cov_tr {p q r:Prefix} (hr:r.Addr.ok=true) (h1:cov p q=true) (h2:cov q r=true):cov p r=true:=by
 rw [cov_iff] at *
 obtain ⟨a1,a2,a3,a4⟩:=h1
 obtain ⟨b1,b2,b3,b4⟩:=h2
 have hw:q.Addr.w=r.Addr.w:=by rw [← b4];unfold Addr.w;rw [cut_v6]
 refine ⟨by omega,a2,by omega,?_⟩
 rw [← a4,← b4,cut_cut_le hr (by omega) (by omega)]
theorem cov_len {p q:Prefix} (hq:goodP q) (h:cov p q=true) (e:p.Len=q.Len):p=q:=by
 rw [cov_iff] at h
 obtain ⟨_,_,_,h4⟩:=h
 rw [e,hq.2.2.2] at h4
 cases p;cases q;simp_all
def GoodO (o:Object):Prop:=goodP o.Prefix∧o.Prefix.Len ≤ o.Max∧o.Max ≤ o.Prefix.Addr.w
theorem goodO_of {o:Object} (h:objB o=true):GoodO o:=by
 unfold objB at h
 simp only [Bool.and_eq_true,decide_eq_true_eq] at h
 exact ⟨(goodB_iff _).1 h.1.1.1,h.1.1.2,h.1.2⟩
theorem dom_iff {a b:Object}:dom a b=true ↔ a ≠ b∧a.ASN=b.ASN∧b.Max ≤ a.Max∧cov a.Prefix b.Prefix=true:=by
 unfold dom
 simp only [Bool.and_eq_true,Bool.not_eq_true',decide_eq_true_eq,beq_iff_eq,ge_iff_le,and_assoc,ne_eq]
 refine and_congr ?_ Iff.rfl
 constructor
 ·intro h e
  rw [(Object.eqd_iff a b).2 e] at h;simp at h
 ·intro h
  cases h2:Object.eqd a b
  ·rfl
  ·exact absurd ((Object.eqd_iff a b).1 h2) h
theorem dom_mu {a b:Object} (hb:GoodO b) (h:dom a b=true):b.Max - b.Prefix.Len < a.Max - a.Prefix.Len:=by
 obtain ⟨h1,h2,h3,h4⟩:=dom_iff.1 h
 have h5:=(cov_iff.1 h4).1
 by_cases e:a.Prefix.Len=b.Prefix.Len
 ·by_cases e2:a.Max=b.Max
  ·have:=cov_len hb.1 h4 e
   refine absurd ?_ h1
   cases a;cases b;simp_all
  ·omega
 ·omega
theorem w_le (a:Addr):a.w ≤ 128:=by unfold Addr.w;split<;>omega
theorem dom_top {s:List Object} (hs :∀o ∈ s,GoodO o) :∀(k:Nat) (o:Object),o ∈ s→200 - (o.Max - o.Prefix.Len) ≤ k→∃y ∈ normE s,y.ASN=o.ASN∧o.Max ≤ y.Max∧cov y.Prefix o.Prefix=true:=by
 intro k
 induction k with
 | zero=>
  intro o ho hk
  obtain ⟨h1,h2,h3⟩:=hs o ho
  have:=w_le o.Prefix.Addr
  have:=h1.2.1
  omega
 | succ k ih=>
  intro o ho hk
  cases hd:s.any fun x=>dom x o
  ·exact ⟨o,List.mem_filter.2 ⟨ho,by rw [hd];rfl⟩,rfl,Int.le_refl _,cov_refl (hs o ho).1⟩
  ·obtain ⟨x,hx,hxo⟩:=List.any_eq_true.1 hd
   have hmu:=dom_mu (hs o ho) hxo
   obtain ⟨_,h2,h3,h4⟩:=dom_iff.1 hxo
   obtain ⟨y,hy,g1,g2,g3⟩:=ih x hx (by omega)
   exact ⟨y,hy,g1.trans h2,by omega,cov_tr (hs o ho).1.1 g3 h4⟩
theorem norm_perm {s l:List Object} (hs :∀o ∈ s,GoodO o) (hl :∀x,x ∈ s ↔ x ∈ l) (p:Prefix) (a:Int):permE l p a=0 ↔ permE (normE s) p a=0:=by
 rw [permE_zero,permE_zero]
 refine ⟨fun ⟨h1,h2⟩=>⟨h1,?_⟩,fun ⟨h1,h2⟩=>⟨h1,?_⟩⟩
 ·obtain ⟨o,ho,h3⟩:=List.any_eq_true.1 h2
  simp only [pc,Bool.and_eq_true,beq_iff_eq,decide_eq_true_eq] at h3
  obtain ⟨y,hy,g1,g2,g3⟩:=dom_top hs _ o ((hl o).2 ho) (Int.self_le_toNat _)
  refine List.any_eq_true.2 ⟨y,hy,?_⟩
  simp only [pc,Bool.and_eq_true,beq_iff_eq,decide_eq_true_eq]
  exact ⟨⟨g1.trans h3.1.1,cov_tr ((goodB_iff p).1 h1).1 g3 h3.1.2⟩,by omega⟩
 ·obtain ⟨o,ho,h3⟩:=List.any_eq_true.1 h2
  exact List.any_eq_true.2 ⟨o,(hl o).1 (List.mem_filter.1 ho).1,h3⟩
theorem IrrNormal_true (a0:List Int) (a1:Int) (w0:a0.length ≤ maxLen∧a0.length * 8 ≤ reachBytes∧∀y ∈ a0,I64 y) (w1:I64 a1) :
  law20_IrrNormal a0 a1=some true:=by
 have hm:maxLen=9223372036854775807:=rfl
 suffices h:Ok (law20_IrrNormal a0 a1) fun b=>b=true by
  obtain ⟨b,h1,rfl⟩:=h
  exact h1
 unfold law20_IrrNormal make_New
 rw [some_bind']
 refine .bind ((make_Registry_plain ⟨by simp,by simp only;omega⟩).and make_Registry_po) ?_
 rintro ⟨r,d⟩ ⟨⟨hr,hd⟩,hsix⟩
 dsimp only at hr hd hsix ⊢
 obtain ⟨_,hob,_,hlo⟩:=regB_iff.1 hr
 obtain ⟨s,en,_,hsp,hsm⟩:=normal_both (l:=r.Objects) (by omega) hob
 have hgood :∀o ∈ s,GoodO o:=fun o ho=>goodO_of (hob o ((hsm o).1 ho))
 rw [en,some_bind']
 have hsl:s.length ≤ 512:=by
  have:s.Nodup:=hsp.imp fun {a b} h e=>by rw [e,ltO_irr] at h;simp at h
  have:=@nodup_len _ (fun a b=>Classical.propDecidable (a=b)) s r.Objects this fun x hx=>(hsm x).1 hx
  omega
 have hnl:(normE s).length ≤ 512:=Nat.le_trans (List.length_filter_le _ _) hsl
 have hnp:(normE s).Pairwise fun a b=>ltO a b=true:=hsp.sublist List.filter_sublist
 refine .bind (make_Prefix_plain hd) ?_
 rintro ⟨p0,d⟩ ⟨_,hd⟩
 dsimp only at hd ⊢
 refine .bind (make_Prefix_plain hd) ?_
 rintro ⟨p1,d⟩ _
 dsimp only
 refine .join (fun _=>True) (fun k hk=>?_) fun ask _=>?_
 ·refine .forI (fun i l=>l.length=2 + 2 * i) rfl (fun _ _=>hk _ trivial) fun next x i l hi _ hl hn=>?_
  obtain ⟨q,e,hq,_⟩:=ref02_Make_eq x.Prefix.Addr x.Max
  rw [hq,some_bind']
  dsimp only
  refine .bind (Ok.apnd (by decide) (by simp;omega)) fun l2 hl2=>hn _ ?_
  rw [hl2];simp;omega
 refine .join (fun _=>True) (fun k hk=>?_) fun _ _=>?_
 ·refine .for_ (fun _=>hk _ trivial) fun next p i _ _ _ hn=>?_
  refine .join (fun _=>True) (fun k2 hk2=>?_) fun _ _=>hn _
  refine .join (fun _=>True) (fun k3 hk3=>?_) fun _ _=>?_
  ·refine .whileI (fun v:Int=>1 ≤ v∧v ≤ 7) (fun v=>(7 - v).toNat) (by omega) (lt_fuel (by omega)) fun next2 v hv hn2=>.ite (fun h=>?_) fun _=>hk3 _ trivial
   simp only [decide_eq_true_eq] at h
   rw [irr_Permits_eq,irr_Permits_eq,some_bind',some_bind']
   refine .ite (fun h=>?_) fun _=>?_
   ·exfalso
    have e:(permE r.Objects p v == 0)=(permE (normE s) p v == 0):=by
     rw [Bool.eq_iff_iff,beq_iff_eq,beq_iff_eq]
     exact norm_perm hgood hsm p v
    rw [e] at h
    simp at h
   ·rw [i64w_id (by omega)]
    exact hn2 _ (by omega) (by omega)
  ·refine .join (fun c=>c=false) (fun k4 hk4=>?_) fun c hc=>by rw [hc];exact .ite (fun h=>absurd h (by simp)) fun _=>hk2 _ trivial
   rw [irr_Permits_eq,some_bind']
   refine .ite (fun h=>?_) fun _=>hk4 _ rfl
   obtain ⟨_,h2⟩:=permE_zero.1 (by simpa using h)
   obtain ⟨o,ho,h3⟩:=List.any_eq_true.1 h2
   simp only [pc,Bool.and_eq_true,beq_iff_eq,decide_eq_true_eq] at h3
   have hor:=(hsm o).1 (List.mem_filter.1 ho).1
   have h6:=hsix o hor
   have h1:=hob o hor
   unfold objB numB at h1
   simp only [Bool.and_eq_true,decide_eq_true_eq] at h1
   have e:=h3.1.1
   refine .ite (fun h=>?_) fun _=>hk4 _ ?_
   ·simp only [decide_eq_true_eq] at h;omega
   ·simp only [cond_true,cond_false,decide_eq_false_iff_not];omega
 refine .join (fun _=>True) (fun k hk=>?_) fun _ _=>by rw [awake_eq];exact .ret rfl
 refine .forX (fun _ _=>True) trivial (fun _ _=>hk _ trivial) fun next o i _ ho _ hn=>?_
 refine .join (fun _=>True) (fun k2 hk2=>?_) fun _ _=>hn _ trivial
 obtain ⟨hi,hoe⟩:=List.getElem?_eq_some_iff.1 ho
 have homem:o ∈ normE s:=List.mem_of_getElem? ho
 rw [part_pre (by omega),some_bind']
 refine .bind (Ok.apnd (by decide) (by simp;omega)) fun _ _=>?_
 rw [part_suf (by omega),some_bind']
 refine .bind (Ok.apnd (by decide) (by simp;omega)) fun rest hrest=>?_
 have hr :∀x ∈ rest,x ∈ normE s∧x ≠ o:=by
  have hsplit:normE s=(normE s).take i ++ o::(normE s).drop (i + 1):=by
   rw [← hoe,← List.drop_eq_getElem_cons hi,List.take_append_drop]
  have hpp:=hnp
  rw [hsplit,List.pairwise_append,List.pairwise_cons] at hpp
  intro x hx
  rw [hrest,List.mem_append] at hx
  rcases hx with hx | hx
  ·refine ⟨List.mem_of_mem_take hx,fun e=>?_⟩
   have:=hpp.2.2 x hx o (by simp)
   rw [e,ltO_irr] at this;simp at this
  ·refine ⟨List.mem_of_mem_drop hx,fun e=>?_⟩
   have:=hpp.2.1.1 x hx
   rw [e,ltO_irr] at this;simp at this
 obtain ⟨q1,f1,hq1,_⟩:=ref02_Make_eq o.Prefix.Addr o.Prefix.Len
 obtain ⟨q2,f2,hq2,_⟩:=ref02_Make_eq o.Prefix.Addr o.Max
 rw [hq1,hq2,some_bind',some_bind']
 dsimp only
 refine .join (fun _=>True) (fun k3 hk3=>?_) fun c _=>?_
 ·rw [irr_Permits_eq,irr_Permits_eq,some_bind',some_bind']
  exact .ite (fun _=>hk3 _ trivial) fun _=>hk3 _ trivial
 refine .join (fun _=>True) (fun k3 hk3=>.ite (fun _=>?_) fun _=>hk3 _ trivial) fun _ _=>hk2 _ trivial
 refine .join (fun c=>c=false) (fun k4 hk4=>?_) fun c hc=>by rw [hc];exact .ite (fun h=>absurd h (by simp)) fun _=>hk3 _ trivial
 have hos:=(List.mem_filter.1 homem)
 refine .forI (fun _ c=>c=false) rfl (fun c hc=>hk4 c hc) fun next2 x j c _ hx hc hn2=>?_
 obtain ⟨hx1,hx2⟩:=hr x hx
 have hdom:dom x o=false:=by
  have:=hos.2
  simp only [Bool.not_eq_true'] at this
  rw [List.any_eq_false] at this
  exact Bool.eq_false_iff.2 (this x (List.mem_filter.1 hx1).1)
 have heq:Object.eqd x o=false:=by
  cases h:Object.eqd x o
  ·rfl
  ·exact absurd ((Object.eqd_iff x o).1 h) hx2
 unfold dom at hdom
 rw [heq] at hdom
 refine .join (fun c=>c=false) (fun k5 hk5=>?_) fun c hc=>hn2 _ hc
 rw [hc,ref02_Covers_eq (hgood o hos.1).1.1,some_bind']
 revert hdom
 cases (x.ASN == o.ASN)<;>cases decide (x.Max ≥ o.Max)<;>cases cov x.Prefix o.Prefix<;>intro hdom<;>first | (simp at hdom;done) | exact hk5 _ rfl
end Go.AX.Q20
end
section
namespace Go.AX
theorem wk {np:Nat} {s s':ASt} (par:((List.range np).all fun r=>(s'.ob.getD r none).isSome)=true:=by rfl)
  (tm:tmW s s' s.tm s'.tm:=by
   repeat' (first
    | exact AvW.refl _
    | refine And.intro ?_ ?_
    | exact True.intro
    | exact AvW.norm _
    | exact AvW.fresh _ _ _ rfl rfl
    | exact AvW.lst _ _ _ _ _ _ rfl (by first | rfl | (simp only [List.length_map];omega)) (.inl rfl)
    | exact AvW.lst _ _ _ _ _ _ rfl (by first | rfl | (simp only [List.length_map];omega)) (.inr rfl)
    | exact AvW.ownL _ _ _ (by first | rfl | (simp only [List.length_map];omega))
    | exact AvW.osl _ _ _ _ _ (by first | rfl | (simp only [List.length_map];omega))
    | exact AvW.oslD _ _ _ _ _ _ _ _ _ rfl (by first | rfl | (simp only [List.length_map];omega)) view_w (.inl rfl)
    | exact AvW.oslD _ _ _ _ _ _ _ _ _ rfl (by first | rfl | (simp only [List.length_map];omega)) view_w (.inr rfl)
    | refine AvW.box _ _ _ _ rfl rfl rfl (Nat.zero_lt_succ _) ?_
    | exact rfl))
  (ob:obW s s' s.ob s'.ob:=by
   repeat' (first
    | exact AvW.refl _
    | refine And.intro ?_ ?_
    | exact rfl
    | exact True.intro
    | refine Exists.intro _ (And.intro rfl ?_)
    | exact .inl ⟨_,rfl,id⟩
    | exact .inl ⟨_,rfl,fun _=>rfl⟩
    | exact .inr ⟨rfl,rfl,by decide⟩
    | exact .inl rfl
    | exact .inr ⟨_,_,_,rfl⟩
    | exact .inl ⟨_,rfl,(by first | rfl | (simp only [List.length_map];omega))⟩
    | exact AvW.norm _
    | exact AvW.fresh _ _ _ rfl rfl
    | exact AvW.lst _ _ _ _ _ _ rfl (by first | rfl | (simp only [List.length_map];omega)) (.inl rfl)
    | exact AvW.lst _ _ _ _ _ _ rfl (by first | rfl | (simp only [List.length_map];omega)) (.inr rfl)
    | exact AvW.ownL _ _ _ (by first | rfl | (simp only [List.length_map];omega))
    | refine AvW.box _ _ _ _ rfl rfl rfl (Nat.zero_lt_succ _) ?_))
  (closed:closedS s'=true:=by rfl):Weak np s s':=.mk par tm ob closed
theorem nil_conv {α:Type} {b:Nat} {r:List α} (h:Option.bind (apnd (α:=α) b [] []) (fun v=>some v)=some r):(some []:Option (List α))=some r:=by
 simpa [apnd] using h
end Go.AX
end
section
namespace Go.AX.Q20
open Go Go.AX Go.Proofs
set_option maxRecDepth 100000
def ti3:TI:=⟨.int .i64,1,8,[.val (.int .i64 0)]⟩
def ti4:TI:=⟨.bool,1,1,[.val (.bool false)]⟩
def ti5:TI:=⟨.int .u8,1,1,[.val (.int .u8 0)]⟩
def ti9:TI:=⟨.str,1,16,[.val (.string ByteArray.empty)]⟩
def ti22:TI:=⟨.slice 43,1,24,[.nil 3]⟩
def ti23:TI:=⟨.slice 55,1,24,[.nil 6]⟩
def ti24:TI:=⟨.struct [(0,1,22),(1,1,23)],2,48,[.nil 3,.nil 6]⟩
def ti25:TI:=⟨.struct [(0,1,22),(1,1,23)],2,48,[.nil 3,.nil 6]⟩
def ti26:TI:=⟨.slice 3,1,24,[.nil 1]⟩
def ti29:TI:=⟨.ptr,1,8,[.val (.pointer none)]⟩
def ti33:TI:=⟨.slice 25,1,24,[.nil 2]⟩
def ti34:TI:=⟨.slice 9,1,24,[.nil 1]⟩
def ti35:TI:=⟨.int .i64,1,8,[.val (.int .i64 0)]⟩
def ti42:TI:=⟨.struct [(0,1,9),(1,1,26),(2,1,34)],3,64,[.val (.string ByteArray.empty),.nil 1,.nil 1]⟩
def ti43:TI:=⟨.struct [(0,1,9),(1,1,26),(2,1,34)],3,64,[.val (.string ByteArray.empty),.nil 1,.nil 1]⟩
def ti44:TI:=⟨.map 3 4,1,8,[.val (.map none)]⟩
def ti47:TI:=⟨.int .u64,1,8,[.val (.int .u64 0)]⟩
def ti48:TI:=⟨.struct [(0,1,4),(1,1,47),(2,1,47)],3,24,[.val (.bool false),.val (.int .u64 0),.val (.int .u64 0)]⟩
def ti49:TI:=⟨.struct [(0,1,4),(1,1,47),(2,1,47)],3,24,[.val (.bool false),.val (.int .u64 0),.val (.int .u64 0)]⟩
def ti50:TI:=⟨.struct [(0,3,49),(3,1,3)],4,32,[.val (.bool false),.val (.int .u64 0),.val (.int .u64 0),.val (.int .i64 0)]⟩
def ti51:TI:=⟨.struct [(0,3,49),(3,1,3)],4,32,[.val (.bool false),.val (.int .u64 0),.val (.int .u64 0),.val (.int .i64 0)]⟩
def ti53:TI:=⟨.slice 51,1,24,[.nil 4]⟩
def ti54:TI:=⟨.struct [(0,4,51),(4,1,3),(5,1,3)],6,48,[.val (.bool false),.val (.int .u64 0),.val (.int .u64 0),.val (.int .i64 0),.val (.int .i64 0),.val (.int .i64 0)]⟩
def ti55:TI:=⟨.struct [(0,4,51),(4,1,3),(5,1,3)],6,48,[.val (.bool false),.val (.int .u64 0),.val (.int .u64 0),.val (.int .i64 0),.val (.int .i64 0),.val (.int .i64 0)]⟩
def ti63:TI:=⟨.slice 26,1,24,[.nil 1]⟩
def ti66:TI:=⟨.arr 2 3,2,16,[.val (.int .i64 0),.val (.int .i64 0)]⟩
def ti67:TI:=⟨.slice 66,1,24,[.nil 2]⟩
def ti70:TI:=⟨.struct [(0,1,26),(1,1,3)],2,32,[.nil 1,.val (.int .i64 0)]⟩
def ti71:TI:=⟨.struct [(0,1,26),(1,1,3)],2,32,[.nil 1,.val (.int .i64 0)]⟩
def ti73:TI:=⟨.ptr,1,8,[.val (.pointer none)]⟩
def ti74:TI:=⟨.ptr,1,8,[.val (.pointer none)]⟩
def ti75:TI:=⟨.map 9 4,1,8,[.val (.map none)]⟩
def ti79:TI:=⟨.fn,1,8,[.val .nilFunc]⟩
def ti80:TI:=⟨.fn,1,8,[.val .nilFunc]⟩
def ti81:TI:=⟨.fn,1,8,[.val .nilFunc]⟩
def ti82:TI:=⟨.map 9 43,1,8,[.val (.map none)]⟩
def ti85:TI:=⟨.fn,1,8,[.val .nilFunc]⟩
def ti86:TI:=⟨.fn,1,8,[.val .nilFunc]⟩
def ti89:TI:=⟨.fn,1,8,[.val .nilFunc]⟩
def ti90:TI:=⟨.fn,1,8,[.val .nilFunc]⟩
def ti99:TI:=⟨.slice 5,1,24,[.nil 1]⟩
def ti101:TI:=⟨.int .u64,1,8,[.val (.int .u64 0)]⟩
def ti112:TI:=⟨.fn,1,8,[.val .nilFunc]⟩
def ti114:TI:=⟨.slice 47,1,24,[.nil 1]⟩
def tt:TT:=(.node 54 ti54 (.node 34 ti34 (.node 23 ti23 (.node 5 ti5 (.node 4 ti4 (.node 3 ti3 .tip .tip) .tip) (.node 22 ti22 (.node 9 ti9 .tip .tip) .tip)) (.node 26 ti26 (.node 25 ti25 (.node 24 ti24 .tip .tip) .tip) (.node 33 ti33 (.node 29 ti29 .tip .tip) .tip))) (.node 48 ti48 (.node 43 ti43 (.node 42 ti42 (.node 35 ti35 .tip .tip) .tip) (.node 47 ti47 (.node 44 ti44 .tip .tip) .tip)) (.node 51 ti51 (.node 50 ti50 (.node 49 ti49 .tip .tip) .tip) (.node 53 ti53 .tip .tip)))) (.node 80 ti80 (.node 71 ti71 (.node 66 ti66 (.node 63 ti63 (.node 55 ti55 .tip .tip) .tip) (.node 70 ti70 (.node 67 ti67 .tip .tip) .tip)) (.node 75 ti75 (.node 74 ti74 (.node 73 ti73 .tip .tip) .tip) (.node 79 ti79 .tip .tip))) (.node 90 ti90 (.node 85 ti85 (.node 82 ti82 (.node 81 ti81 .tip .tip) .tip) (.node 89 ti89 (.node 86 ti86 .tip .tip) .tip)) (.node 112 ti112 (.node 101 ti101 (.node 99 ti99 .tip .tip) .tip) (.node 114 ti114 .tip .tip)))))
theorem tabOk:TabOk Tryz.prog tt:=tabB_ok (by kernel_rfl)
end Go.AX.Q20
end
section
namespace Go.AX
open Go.Proofs Go.Sort Go.Shelf Go.RowKit
theorem two_val {vals:Array Value} {v u:Value} (hs:vals.size=2) (h:vals.getD 0 undef=v) (h':vals.getD 1 undef=u):vals=#[v,u]:=by
 match vals,hs with
 | ⟨[a,b]⟩,_=>
  simp at h h'
  rw [h,h']
theorem sortWorldK_heap {α:Type} [Inhabited α] (enc:α→List Value) (k:Nat) (w:World) (blk off n:Nat) (d:Array α) (os:Array Obj) (hb:blk < w.heap.size) :
  (∀b,b < w.heap.size→b ≠ blk→(sortWorldK enc k w blk off n d os).heap[b]?=w.heap[b]?)∧w.heap.size ≤ (sortWorldK enc k w blk off n d os).heap.size∧
  (∀vs e fr,w.heap[blk]?=some (.cells vs e fr)→(sortWorldK enc k w blk off n d os).heap[blk]?=some (.cells (putCells id off (flatK enc k d) vs) e fr))∧
  (sortWorldK enc k w blk off n d os).os=w.os∧(sortWorldK enc k w blk off n d os).output=w.output∧(sortWorldK enc k w blk off n d os).tape=w.tape∧w.drawn ≤ (sortWorldK enc k w blk off n d os).drawn:=by
 have hh:(sortWorldK enc k w blk off n d os).heap=(w.heap.modify blk (onCells (putCells id off (flatK enc k d)))) ++ os:=rfl
 refine ⟨fun b h1 h2=>?_,?_,fun vs e fr h=>?_,rfl,rfl,rfl,Nat.le_add_right _ _⟩
 ·rw [hh,Array.getElem?_append_left (by simpa using h1),Array.getElem?_modify,if_neg (Ne.symm h2)]
 ·rw [hh];simp
 ·rw [hh,Array.getElem?_append_left (by simpa using hb),Array.getElem?_modify,if_pos rfl,h]
  rfl
theorem grow_of {W w':World} (hp :∀b,b < W.heap.size→w'.heap[b]?=W.heap[b]?) (sz:W.heap.size ≤ w'.heap.size) (os:w'.os=W.os) (out:w'.output=W.output) (tape:w'.tape=W.tape) (dr:W.drawn ≤ w'.drawn) :
  ∃q os',w'=grow (W.drewN q) os':=by
 refine ⟨w'.drawn - W.drawn,w'.heap.extract W.heap.size w'.heap.size,?_⟩
 obtain ⟨h1,t1,d1,o1,u1⟩:=w'
 obtain ⟨h2,t2,d2,o2,u2⟩:=W
 simp only at hp sz os out tape dr
 subst os out tape
 have hheap:h1=h2 ++ h1.extract h2.size h1.size:=by
  apply Array.ext_getElem?
  intro i
  by_cases hi:i < h2.size
  ·rw [Array.getElem?_append_left hi];exact hp i hi
  ·rw [Array.getElem?_append_right (by omega),Array.getElem?_extract]
   by_cases hi2:i < h1.size
   ·rw [if_pos (by omega),show h2.size + (i - h2.size)=i by omega]
   ·rw [if_neg (by omega),Array.getElem?_eq_none (by omega)]
 have hd:d1=d2 + (d1 - d2):=by omega
 unfold grow World.drewN
 simp only
 congr 1
set_option maxHeartbeats 4000000 in
theorem sortF_ok {wl:Prop} {P:Program} {ρ:Ren} {X:Type} {f:X→D} {cmp:X→X→Option Int} {g k e:Nat} (L:SlLaysF0.n6 P ρ) (hf:FnOK P (ρ.f 6)) (aE :∀w,(isAgg (ρ.t 24)).run P w=.ok true w) (zE :∀w,(Go.sizeOf (ρ.t 24)).run P w=.ok k w)
  (eg :∀args w,(callFunc g args).run P w=.ok (.enter g args) w) (hagg :∀x,(f x).isAgg=true) (hcmp :∀{a b r},cmp a b=some r→CallsOK False P g [.d (f a),.d (f b)] [] (.i r) [])
  {l r:List X} (h:sortF cmp l=some r):CallsOK wl P (ρ.f 6) [.own 0 (List.map f l).length,.fn g []] [.row e k (List.map f l) false] (.tup []) [.row e k (List.map f r) false]:=by
 refine ⟨hf,fun w S φ vals hs hr hn m=>?_⟩
 have r0:=(hr 0 (by simp)).1
 have r1:=(hr 1 (by simp)).1
 simp only [List.getElem_cons_zero,List.getElem_cons_succ] at r0 r1
 have hv:=two_val hs rfl rfl
 generalize vals.getD 0 undef=v0 at r0 hv
 generalize vals.getD 1 undef=v1 at r1 hv
 cases r1 with | fn _ _ vs1 _ hs1 _ _=>
 obtain rfl:vs1=#[]:=Array.eq_empty_of_size_eq_zero (by simpa using hs1)
 cases r0 with | own _ _ _ kk c a0 hv0 hk0 h1 hb=>
 have hob:ofL [OB.row e k (List.map f l) false] 0=some (.row e k (List.map f l) false):=rfl
 obtain ⟨_,hown⟩:=h1 _ _ _ _ hob
 have hown:=hown rfl
 have hmem:=m.obj 0 _ hob
 obtain ⟨g0,g1,g2,g3⟩:=hmem
 have hol :∀r',ofL [OB.row e k (List.map f r') false]=upd (ofL [OB.row e k (List.map f l) false]) 0 (some (.row e k (List.map f r') false)):=by
  intro r'
  funext q
  match q with
  | 0=>simp [ofL]
  | q + 1=>simp [ofL,upd]
 by_cases hl:0 < l.length
 rotate_left
 ·
  have hl0:l=[]:=List.eq_nil_of_length_eq_zero (by omega)
  subst hl0
  obtain ⟨hp,_⟩:=sortF_spec h
  obtain rfl:r=[]:=hp.eq_nil
  obtain ⟨p,cap,hvp⟩ :∃p cap,v0=.slice p 0 cap:=by rw [hv0,hk0];exact ⟨_,_,rfl⟩
  rw [hv,hvp]
  refine (AnyF.slices_SortFunc_none L p cap _ w).mono fun e' w' ⟨he,hw⟩=>⟨_,he,S,φ,hw ▸ m,hw ▸ .refl _ _ _ _,.tup [] #[] (fun _=>undef) rfl (fun i hi=>by simp at hi) (fun i hi=>by simp at hi),fun q hq=>by simp [AV.refs,AV.refs.refsL] at hq⟩
 rcases g3 with ⟨_,hnil⟩ | ⟨b,cap,vs,f0,f1,f2,f3,f4,f5,f6,f7,f8⟩
 ·simp at hnil
  subst hnil
  simp at hl
 obtain ⟨hlen,hget⟩:=sortF_get h hl
 have hsw:swoB cmp l=true:=by
  unfold sortF at h
  split at h
  ·assumption
  ·simp at h
 obtain ⟨hpsz,hpperm,_⟩:=pdqI_spec hsw hl
 have hv0':v0=.slice (some ⟨b,cap.2,none⟩) l.length cap.1:=by
  rcases hown with ⟨hφ0,_⟩ | ⟨b',cap',hφ0,hvv⟩
  ·rw [f1] at hφ0;simp at hφ0
  ·rw [f1] at hφ0
   simp only [Option.some.injEq,Prod.mk.injEq] at hφ0
   obtain ⟨rfl,rfl⟩:=hφ0
   rw [hvv];simp
 have hbl:=(m.ow 0 b cap (by simp [ofL]) f1).1
 let ix:Nat→Nat:=fun i=>min i (l.length - 1)
 have hix :∀i,ix i < l.length:=fun i=>by simp only [ix];omega
 let enc:Nat→List Value:=fun i=>(List.range k).map fun j=>f0 (ix i) j
 have hencl :∀x,(enc x).length=k:=fun x=>by simp [enc]
 have helem :∀i (hi:i < l.length),(f l[i]).cells.length=k:=fun i hi=>by have:=g1 i (by simpa using hi);simpa using this
 have hrep :∀i (hi:i < l.length) j (hj:j < k),∃hj':j < (f l[i]).cells.length,RepD S w ((f l[i]).cells[j]'hj') (f0 i j)∧((f l[i]).cells[j]'hj').isAgg=false:=by
  intro i hi j hj
  have hj':j < (f l[i]).cells.length:=by rw [helem i hi];exact hj
  refine ⟨hj',?_,?_⟩
  ·have:=f7 i (by simpa using hi) j (by simpa using hj');simpa using this
  ·have:=g2 i (by simpa using hi) j (by simpa using hj');simpa using this
 have hone :∀x,∀v ∈ enc x,v.oneCell'=true:=by
  intro x v hv
  obtain ⟨j,hj,rfl⟩:=List.mem_map.1 hv
  obtain ⟨hj',h2,h3⟩:=hrep (ix x) (hix x) j (by simpa using hj)
  exact h2.one h3
 have hflat :∀(d:Array Nat) t,t < d.size * k→(flatK enc k d)[t]! = f0 (ix d[t / k]!) (t % k):=by
  intro d t ht
  have hk0:0 < k:=g0
  rw [get_flatK _ _ _ _ ht]
  have:=Nat.mod_lt t hk0
  simp [enc,this]
 have hH:HoldsK enc k w b cap.2 (Array.range l.length):=by
  intro t ht
  have ht':t < l.length * k:=by simpa using ht
  have hk0:0 < k:=g0
  have hq:t / k < l.length:=Nat.div_lt_of_lt_mul (by rwa [Nat.mul_comm])
  rw [hflat _ t (by simpa using ht')]
  have h1:(Array.range l.length)[t / k]! = t / k:=by simp [hq]
  have h2:ix (t / k)=t / k:=by simp only [ix];omega
  have h3:=f6 (t / k) (t % k) (by simpa using hq) (Nat.mod_lt t hk0)
  have h4:t / k * k + t % k=t:=by rw [Nat.mul_comm];exact Nat.div_add_mod t k
  rw [h4] at h3
  rw [h1,h2]
  refine ⟨?_,?_⟩
  ·simp only [World.cell?,f2,id]
   exact h3
  ·simp [World.frozen?,f2]
 have hkeep :∀(n:Nat) (d:Array Nat) (os:Array Obj),Keeps S w S (sortWorldK enc k w b cap.2 n d os):=by
  intro n d os b' o hS
  obtain ⟨h1,_⟩:=sortWorldK_heap enc k w b cap.2 n d os hbl
  have hne:b' ≠ b:=fun he=>f8 o (by simp) (he ▸ hS)
  exact ⟨hS,cellAt_of_heap (h1 b' (m.bS b' o hS) hne) o⟩
 have hrepE :∀{W:World},Keeps S w S W→∀i (hi:i < l.length),RepD S W (f l[i]) (.agg ((List.range k).map fun j=>f0 i j).toArray):=by
  intro W hK i hi
  have ha:=hagg l[i]
  cases hfl:f l[i] with
  | agg cs=>
   have hcs:cs.length=k:=by have:=helem i hi;rw [hfl] at this;exact this
   refine .agg cs _ (fun j=>f0 i j) (by simp [hcs]) (fun j hj=>by simp [hcs ▸ hj]) (fun j hj=>?_) fun j hj=>?_
   ·obtain ⟨hj',_,h3⟩:=hrep i hi j (hcs ▸ hj)
    simp only [hfl,D.cells] at h3
    exact h3
   ·obtain ⟨hj',h2,_⟩:=hrep i hi j (hcs ▸ hj)
    simp only [hfl,D.cells] at h2
    exact h2.mono hK
  | val v=>rw [hfl] at ha;simp [D.isAgg] at ha
  | nil sz=>rw [hfl] at ha;simp [D.isAgg] at ha
  | lst sz es=>rw [hfl] at ha;simp [D.isAgg] at ha
 have hfull :∀x,∃(hi:ix x < l.length),enc x=(List.range k).map fun j=>f0 (ix x) j:=fun x=>⟨hix x,rfl⟩
 have hlays:CmpLays P g #[] enc k (cfI cmp l) b cap.2 (Array.range l.length).size w:=by
  intro q os dk hdk x y
  obtain ⟨w1,w2,w3,w4,w5,w6,w7⟩:=sortWorldK_heap enc k w b cap.2 q dk os hbl
  have hK:=hkeep q dk os
  generalize hW:sortWorldK enc k w b cap.2 q dk os=W at *
  have hx:=hix x
  have hy:=hix y
  obtain ⟨c1,_⟩:=swoB_spec hsw
  obtain ⟨rr,hrr⟩:=c1 l[ix x] (List.getElem_mem hx) l[ix y] (List.getElem_mem hy)
  have hcf:cfI cmp l x y=rr:=by
   have e1:ixL l x=some l[ix x]:=List.getElem?_eq_getElem hx
   have e2:ixL l y=some l[ix y]:=List.getElem?_eq_getElem hy
   unfold cfI
   rw [e1,e2]
   simp [hrr]
  have hn0 :∀r,ofL [] r=none:=fun r=>by simp [ofL]
  refine ((hcmp hrr).2 W S (fun _=>none) (#[.agg (enc x).toArray,.agg (enc y).toArray] ++ #[]) (by simp) (fun i hi=>?_) (fun _ _=>rfl) ⟨fun r o ho=>by rw [hn0] at ho;simp at ho,fun r _ _ _ _ hr=>absurd (hn0 r) hr,fun r o ho=>by rw [hn0] at ho;simp at ho,fun _ _ h=>h,fun _ _ _=>rfl,fun b' o hS=>Nat.lt_of_lt_of_le (m.bS b' o hS) w2,fun _ _ h _ _=>h,fun _ _ _=>rfl,Nat.le_refl _,fun r _ _ hr=>absurd (hn0 r) hr,⟨rfl,rfl,rfl,.inr (Nat.le_refl _)⟩⟩).mono fun e' w' he=>?_
  ·refine ⟨?_,?_⟩
   ·match i,hi with
    | 0,_=>exact .d _ _ (hrepE hK (ix x) hx)
    | 1,_=>exact .d _ _ (hrepE hK (ix y) hy)
   ·match i,hi with
    | 0,_=>exact closed_d _ _
    | 1,_=>exact closed_d _ _
  ·obtain ⟨v,rfl,S',φ',mm,_,hvv,_⟩:=he
   refine ⟨by rw [hvv.int,hcf],?_⟩
   have hpb :∀b',¬ PBof (fun _:Nat=>(none:Option (Nat×Rp))) ([]:List OB).length b':=by rintro b' ⟨r,c,h1,_⟩;simp at h1
   refine grow_of (fun b' hb'=>mm.fr b' hb' (hpb b')) mm.sz mm.os.1 mm.os.2.1 mm.os.2.2.1 ?_
   rcases mm.os.2.2.2 with h | h
   ·exact h.elim
   ·exact h
 have hc:=AnyQ.slices_SortFunc_eq L k aE zE enc hencl hone (cfI cmp l) (swo_cfI hsw hl) g #[] b cap.2 cap.1 (Array.range l.length) w eg hlays hH hbl (by
  have:=(swoB_spec hsw).2.2.2.2
  simp;omega)
 rw [hv,hv0']
 have hsz0:(Array.range l.length).size=l.length:=by simp
 rw [hsz0] at hc
 refine hc.mono fun e' w' ⟨he,n,os,hw⟩=>?_
 have hd:pdq (ltOf (cfI cmp l)) (Array.range l.length) 0 l.length (Lib.bitLen l.length) true true=pdqI cmp l:=rfl
 rw [hd] at hw
 obtain ⟨w1,w2,w3,w4,w5,w6,w7⟩:=sortWorldK_heap enc k w b cap.2 n (pdqI cmp l) os hbl
 rw [← hw] at w1 w2 w3 w4 w5 w6 w7
 have hcur:=w3 _ _ _ f2
 have hr' :∀i (hi:i < r.length),∃(hp:(pdqI cmp l)[i]! < l.length),r[i]=l[(pdqI cmp l)[i]!]:=by
  intro i hi
  obtain ⟨p1,p2⟩:=hget i (by omega)
  rw [List.getElem?_eq_getElem hi,List.getElem?_eq_getElem p1] at p2
  exact ⟨p1,Option.some.inj p2⟩
 obtain ⟨m2,k2⟩:=m.rowSet (es':=List.map f r) (cur':=putCells id cap.2 (flatK enc k (pdqI cmp l)) vs) (w':=w') hob f1 f2 (by simp [hlen])
  (fun i hi=>by
   have hi':i < r.length:=by simpa using hi
   obtain ⟨hp,he⟩:=hr' i hi'
   simp only [List.getElem_map,he]
   exact helem _ hp)
  (fun i hi j hj=>by
   have hi':i < r.length:=by simpa using hi
   obtain ⟨hp,he⟩:=hr' i hi'
   simp only [List.getElem_map,he] at hj ⊢
   obtain ⟨hj',_,h3⟩:=hrep _ hp j (by rw [helem _ hp] at hj;exact hj)
   exact h3)
  hcur (by simp [putCells]) (fun b' h1 h2=>w1 b' h1 h2) w2 ⟨w4,w5,w6,w7⟩ (fun i j=>f0 (pdqI cmp l)[i]! j)
  (fun i j hi hj=>by
   have hi':i < r.length:=by simpa using hi
   obtain ⟨hp,he⟩:=hr' i hi'
   have hil:i < l.length:=by omega
   have hik:i * k + j < l.length * k:=by
    have:=Nat.mul_le_mul_right k (show i + 1 ≤ l.length from hil)
    rw [Nat.add_mul,Nat.one_mul] at this
    omega
   have hbig:cap.2 + (i * k + j) < vs.size:=by
    have h3:l.length ≤ cap.1:=by simpa using f3
    have:=Nat.mul_le_mul_right k h3
    omega
   have e1:(i * k + j) / k=i:=by rw [Nat.mul_comm,Nat.mul_add_div g0,Nat.div_eq_of_lt hj,Nat.add_zero]
   have e2:(i * k + j) % k=j:=by rw [Nat.mul_comm,Nat.mul_add_mod,Nat.mod_eq_of_lt hj]
   have hfl:=hflat (pdqI cmp l) (i * k + j) (by rw [hpsz];exact hik)
   rw [e1,e2] at hfl
   have hixx:ix (pdqI cmp l)[i]! = (pdqI cmp l)[i]!:=by simp only [ix];omega
   rw [hixx] at hfl
   simp only [putCells,Array.getElem?_mapIdx,Array.getElem?_eq_getElem hbig,Option.map_some]
   rw [if_pos ⟨by omega,by rw [size_flatK,hpsz];omega⟩,show cap.2 + (i * k + j) - cap.2=i * k + j by omega,hfl]
   rfl)
  (fun i hi j hj=>by
   have hi':i < r.length:=by simpa using hi
   obtain ⟨hp,he⟩:=hr' i hi'
   simp only [List.getElem_map,he] at hj ⊢
   obtain ⟨hj',h2,_⟩:=hrep _ hp j (by rw [helem _ hp] at hj;exact hj)
   exact h2)
 rw [← hol r] at m2 k2
 exact ⟨_,he,S,φ,m2,k2,.tup [] #[] (fun _=>undef) rfl (fun i hi=>by simp at hi) (fun i hi=>by simp at hi),fun q hq=>by simp [AV.refs,AV.refs.refsL] at hq⟩
end Go.AX
end
section
set_option maxRecDepth 100000
namespace Go.Proofs
open Go.Shelf
def Tryz.l41_ren:Go.Shelf.Ren:=⟨fun | 6=>41 | 8=>73 | 9=>74 | 11=>91 | 13=>93 | 12=>92 | 23=>117 | 24=>118 | 14=>108 | 15=>109 | 16=>110 | 17=>111 | 18=>112 | 19=>113 | 20=>114 | 21=>115 | 22=>116 | 25=>143 | 26=>144 | 27=>145 | 28=>146 | 29=>147 | 30=>137 | 31=>160 | n=>n,fun | 26=>3 | 28=>86 | 24=>26 | 0=>0 | 3=>3 | 37=>101 | 48=>147 | 50=>47 | 4=>4 | 40=>139 | 39=>138 | 45=>144 | 5=>5 | 9=>9 | 51=>165 | 55=>169 | 57=>177 | 58=>178 | 33=>79 | n=>n,fun | n=>n⟩
theorem Tryz.l41:Go.Proofs.SlLaysZI.n6 Tryz.prog Tryz.l41_ren:={
 mixed:=by kernel_rfl
 f6:=⟨Tryz.f41.name,by decide,Tryz.func41.trans (congrArg some (by kernel_rfl))⟩
 f8:=⟨Tryz.f73.name,by decide,Tryz.func73.trans (congrArg some (by kernel_rfl))⟩
 f11:=⟨Tryz.f91.name,by decide,Tryz.func91.trans (congrArg some (by kernel_rfl))⟩
 t0:=Tryz.underlying0
 a0:=Tryz.isAgg0
 z0:=Tryz.sizeOf0
 v0:=Tryz.zeroValue0
 t24:=Tryz.underlying26
 a24:=Tryz.isAgg26
 z24:=Tryz.sizeOf26
 v24:=Tryz.zeroValue26
 t26:=Tryz.underlying3
 a26:=Tryz.isAgg3
 z26:=Tryz.sizeOf3
 v26:=Tryz.zeroValue3
 t28:=Tryz.underlying86
 a28:=Tryz.isAgg86
 z28:=Tryz.sizeOf86
 v28:=Tryz.zeroValue86
 i26:=by kernel_rfl }
def Tryz.l42_ren:Go.Shelf.Ren:=⟨fun | 7=>42 | 10=>75 | n=>n,fun | 23=>44 | 26=>3 | 3=>4 | 28=>86 | 0=>0 | 27=>85 | 33=>79 | 4=>4 | n=>n,fun | n=>n⟩
theorem Tryz.l42:Go.Proofs.SlLaysZI.n7 Tryz.prog Tryz.l42_ren:={
 mixed:=by kernel_rfl
 f7:=⟨Tryz.f42.name,by decide,Tryz.func42.trans (congrArg some (by kernel_rfl))⟩
 f10:=⟨Tryz.f75.name,by decide,Tryz.func75.trans (congrArg some (by kernel_rfl))⟩
 t0:=Tryz.underlying0
 a0:=Tryz.isAgg0
 z0:=Tryz.sizeOf0
 v0:=Tryz.zeroValue0
 t4:=Tryz.underlying4
 a4:=Tryz.isAgg4
 z4:=Tryz.sizeOf4
 v4:=Tryz.zeroValue4
 t23:=Tryz.underlying44
 a23:=Tryz.isAgg44
 z23:=Tryz.sizeOf44
 v23:=Tryz.zeroValue44
 t26:=Tryz.underlying3
 a26:=Tryz.isAgg3
 z26:=Tryz.sizeOf3
 v26:=Tryz.zeroValue3
 t27:=Tryz.underlying85
 a27:=Tryz.isAgg85
 z27:=Tryz.sizeOf85
 v27:=Tryz.zeroValue85
 t28:=Tryz.underlying86
 a28:=Tryz.isAgg86
 z28:=Tryz.sizeOf86
 v28:=Tryz.zeroValue86
 t33:=Tryz.underlying79
 a33:=Tryz.isAgg79
 z33:=Tryz.sizeOf79
 v33:=Tryz.zeroValue79 }
def Tryz.l74_ren:Go.Shelf.Ren:=⟨fun | 5=>74 | 8=>93 | 7=>92 | 19=>117 | 20=>118 | 10=>108 | 11=>109 | 12=>110 | 13=>111 | 14=>112 | 15=>113 | 16=>114 | 17=>115 | 18=>116 | 30=>143 | 31=>144 | 32=>145 | 33=>146 | 34=>147 | 35=>137 | 40=>160 | n=>n,fun | 23=>26 | 25=>3 | 3=>3 | 32=>101 | 22=>26 | 0=>0 | 44=>147 | 46=>47 | 4=>4 | 36=>139 | 35=>138 | 41=>144 | 5=>5 | 9=>9 | 53=>165 | 57=>169 | 63=>177 | 64=>178 | n=>n,fun | n=>n⟩
theorem Tryz.l74:Go.Proofs.SlLaysM.n5 Tryz.prog Tryz.l74_ren:={
 mixed:=by kernel_rfl
 f5:=⟨Tryz.f74.name,by decide,Tryz.func74.trans (congrArg some (by kernel_rfl))⟩
 f7:=⟨Tryz.f92.name,by decide,Tryz.func92.trans (congrArg some (by kernel_rfl))⟩
 f8:=Tryz.func93.trans (congrArg some (by kernel_rfl))
 f10:=⟨Tryz.f108.name,by decide,Tryz.func108.trans (congrArg some (by kernel_rfl))⟩
 f11:=⟨Tryz.f109.name,by decide,Tryz.func109.trans (congrArg some (by kernel_rfl))⟩
 f12:=⟨Tryz.f110.name,by decide,Tryz.func110.trans (congrArg some (by kernel_rfl))⟩
 f13:=⟨Tryz.f111.name,by decide,Tryz.func111.trans (congrArg some (by kernel_rfl))⟩
 f14:=⟨Tryz.f112.name,by decide,Tryz.func112.trans (congrArg some (by kernel_rfl))⟩
 f15:=⟨Tryz.f113.name,by decide,Tryz.func113.trans (congrArg some (by kernel_rfl))⟩
 f16:=⟨Tryz.f114.name,by decide,Tryz.func114.trans (congrArg some (by kernel_rfl))⟩
 f17:=⟨Tryz.f115.name,by decide,Tryz.func115.trans (congrArg some (by kernel_rfl))⟩
 f18:=⟨Tryz.f116.name,by decide,Tryz.func116.trans (congrArg some (by kernel_rfl))⟩
 f19:=Tryz.func117.trans (congrArg some (by kernel_rfl))
 f20:=Tryz.func118.trans (congrArg some (by kernel_rfl))
 f30:=⟨Tryz.f143.name,by decide,Tryz.func143.trans (congrArg some (by kernel_rfl))⟩
 f31:=Tryz.func144.trans (congrArg some (by kernel_rfl))
 f32:=Tryz.func145.trans (congrArg some (by kernel_rfl))
 f33:=⟨Tryz.f146.name,by decide,Tryz.func146.trans (congrArg some (by kernel_rfl))⟩
 f34:=⟨Tryz.f147.name,by decide,Tryz.func147.trans (congrArg some (by kernel_rfl))⟩
 f35:=⟨Tryz.f137.name,by decide,Tryz.func137.trans (congrArg some (by kernel_rfl))⟩
 f40:=⟨Tryz.f160.name,by decide,Tryz.func160.trans (congrArg some (by kernel_rfl))⟩
 t0:=Tryz.underlying0
 a0:=Tryz.isAgg0
 z0:=Tryz.sizeOf0
 v0:=Tryz.zeroValue0
 t3:=Tryz.underlying3
 a3:=Tryz.isAgg3
 z3:=Tryz.sizeOf3
 v3:=Tryz.zeroValue3
 t4:=Tryz.underlying4
 a4:=Tryz.isAgg4
 z4:=Tryz.sizeOf4
 v4:=Tryz.zeroValue4
 t5:=Tryz.underlying5
 a5:=Tryz.isAgg5
 z5:=Tryz.sizeOf5
 v5:=Tryz.zeroValue5
 t9:=Tryz.underlying9
 a9:=Tryz.isAgg9
 z9:=Tryz.sizeOf9
 v9:=Tryz.zeroValue9
 t22:=Tryz.underlying26
 a22:=Tryz.isAgg26
 z22:=Tryz.sizeOf26
 v22:=Tryz.zeroValue26
 t23:=Tryz.underlying26
 a23:=Tryz.isAgg26
 z23:=Tryz.sizeOf26
 v23:=Tryz.zeroValue26
 t25:=Tryz.underlying3
 a25:=Tryz.isAgg3
 z25:=Tryz.sizeOf3
 v25:=Tryz.zeroValue3
 t32:=Tryz.underlying101
 a32:=Tryz.isAgg101
 z32:=Tryz.sizeOf101
 v32:=Tryz.zeroValue101
 t35:=Tryz.underlying138
 a35:=Tryz.isAgg138
 z35:=Tryz.sizeOf138
 v35:=Tryz.zeroValue138
 t36:=Tryz.underlying139
 a36:=Tryz.isAgg139
 z36:=Tryz.sizeOf139
 v36:=Tryz.zeroValue139
 t41:=Tryz.underlying144
 a41:=Tryz.isAgg144
 z41:=Tryz.sizeOf144
 v41:=Tryz.zeroValue144
 t44:=Tryz.underlying147
 a44:=Tryz.isAgg147
 z44:=Tryz.sizeOf147
 v44:=Tryz.zeroValue147
 t46:=Tryz.underlying47
 a46:=Tryz.isAgg47
 z46:=Tryz.sizeOf47
 v46:=Tryz.zeroValue47
 t53:=Tryz.underlying165
 a53:=Tryz.isAgg165
 z53:=Tryz.sizeOf165
 v53:=Tryz.zeroValue165
 t57:=Tryz.underlying169
 a57:=Tryz.isAgg169
 z57:=Tryz.sizeOf169
 v57:=Tryz.zeroValue169
 t63:=Tryz.underlying177
 a63:=Tryz.isAgg177
 z63:=Tryz.sizeOf177
 v63:=Tryz.zeroValue177
 t64:=Tryz.underlying178
 a64:=Tryz.isAgg178
 z64:=Tryz.sizeOf178
 v64:=Tryz.zeroValue178 }
def Tryz.l43_ren:Go.Shelf.Ren:=⟨fun | 6=>43 | 8=>76 | 9=>77 | 11=>94 | 13=>93 | 12=>95 | 23=>117 | 24=>118 | 14=>119 | 15=>120 | 16=>121 | 17=>122 | 18=>123 | 19=>124 | 20=>125 | 21=>126 | 22=>127 | 25=>148 | 26=>144 | 27=>145 | 28=>149 | 29=>150 | 30=>151 | 31=>161 | n=>n,fun | 26=>9 | 28=>90 | 24=>34 | 0=>0 | 3=>3 | 37=>101 | 48=>147 | 50=>47 | 4=>4 | 40=>139 | 39=>138 | 45=>144 | 5=>5 | 9=>9 | 51=>165 | 55=>169 | 57=>177 | 58=>178 | 33=>80 | n=>n,fun | n=>n⟩
theorem Tryz.l43:Go.Proofs.SlLaysZ.n6 Tryz.prog Tryz.l43_ren:={
 mixed:=by kernel_rfl
 f6:=⟨Tryz.f43.name,by decide,Tryz.func43.trans (congrArg some (by kernel_rfl))⟩
 f8:=⟨Tryz.f76.name,by decide,Tryz.func76.trans (congrArg some (by kernel_rfl))⟩
 f11:=⟨Tryz.f94.name,by decide,Tryz.func94.trans (congrArg some (by kernel_rfl))⟩
 t0:=Tryz.underlying0
 a0:=Tryz.isAgg0
 z0:=Tryz.sizeOf0
 v0:=Tryz.zeroValue0
 t24:=Tryz.underlying34
 a24:=Tryz.isAgg34
 z24:=Tryz.sizeOf34
 v24:=Tryz.zeroValue34
 t26:=Tryz.underlying9
 a26:=Tryz.isAgg9
 z26:=Tryz.sizeOf9
 v26:=Tryz.zeroValue9
 t28:=Tryz.underlying90
 a28:=Tryz.isAgg90
 z28:=Tryz.sizeOf90
 v28:=Tryz.zeroValue90
 i26:=by kernel_rfl }
def Tryz.l44_ren:Go.Shelf.Ren:=⟨fun | 7=>44 | 10=>78 | n=>n,fun | 23=>75 | 26=>9 | 3=>4 | 28=>90 | 0=>0 | 27=>89 | 33=>80 | 4=>4 | n=>n,fun | n=>n⟩
theorem Tryz.l44:Go.Proofs.SlLaysZ.n7 Tryz.prog Tryz.l44_ren:={
 mixed:=by kernel_rfl
 f7:=⟨Tryz.f44.name,by decide,Tryz.func44.trans (congrArg some (by kernel_rfl))⟩
 f10:=⟨Tryz.f78.name,by decide,Tryz.func78.trans (congrArg some (by kernel_rfl))⟩
 t0:=Tryz.underlying0
 a0:=Tryz.isAgg0
 z0:=Tryz.sizeOf0
 v0:=Tryz.zeroValue0
 t4:=Tryz.underlying4
 a4:=Tryz.isAgg4
 z4:=Tryz.sizeOf4
 v4:=Tryz.zeroValue4
 t23:=Tryz.underlying75
 a23:=Tryz.isAgg75
 z23:=Tryz.sizeOf75
 v23:=Tryz.zeroValue75
 t26:=Tryz.underlying9
 a26:=Tryz.isAgg9
 z26:=Tryz.sizeOf9
 v26:=Tryz.zeroValue9
 t27:=Tryz.underlying89
 a27:=Tryz.isAgg89
 z27:=Tryz.sizeOf89
 v27:=Tryz.zeroValue89
 t28:=Tryz.underlying90
 a28:=Tryz.isAgg90
 z28:=Tryz.sizeOf90
 v28:=Tryz.zeroValue90
 t33:=Tryz.underlying80
 a33:=Tryz.isAgg80
 z33:=Tryz.sizeOf80
 v33:=Tryz.zeroValue80 }
def Tryz.l77_ren:Go.Shelf.Ren:=⟨fun | 6=>77 | 8=>93 | 9=>95 | 19=>117 | 20=>118 | 21=>119 | 22=>120 | 23=>121 | 24=>122 | 25=>123 | 26=>124 | 27=>125 | 28=>126 | 29=>127 | 36=>148 | 31=>144 | 32=>145 | 37=>149 | 38=>150 | 39=>151 | 41=>161 | n=>n,fun | 27=>34 | 29=>9 | 3=>3 | 32=>101 | 26=>34 | 0=>0 | 44=>147 | 46=>47 | 4=>4 | 36=>139 | 35=>138 | 41=>144 | 5=>5 | 9=>9 | 53=>165 | 57=>169 | 63=>177 | 64=>178 | n=>n,fun | n=>n⟩
theorem Tryz.l77:Go.Proofs.SlLaysM.n6 Tryz.prog Tryz.l77_ren:={
 mixed:=by kernel_rfl
 f6:=⟨Tryz.f77.name,by decide,Tryz.func77.trans (congrArg some (by kernel_rfl))⟩
 f8:=Tryz.func93.trans (congrArg some (by kernel_rfl))
 f9:=⟨Tryz.f95.name,by decide,Tryz.func95.trans (congrArg some (by kernel_rfl))⟩
 f19:=Tryz.func117.trans (congrArg some (by kernel_rfl))
 f20:=Tryz.func118.trans (congrArg some (by kernel_rfl))
 f21:=⟨Tryz.f119.name,by decide,Tryz.func119.trans (congrArg some (by kernel_rfl))⟩
 f22:=⟨Tryz.f120.name,by decide,Tryz.func120.trans (congrArg some (by kernel_rfl))⟩
 f23:=⟨Tryz.f121.name,by decide,Tryz.func121.trans (congrArg some (by kernel_rfl))⟩
 f24:=⟨Tryz.f122.name,by decide,Tryz.func122.trans (congrArg some (by kernel_rfl))⟩
 f25:=⟨Tryz.f123.name,by decide,Tryz.func123.trans (congrArg some (by kernel_rfl))⟩
 f26:=⟨Tryz.f124.name,by decide,Tryz.func124.trans (congrArg some (by kernel_rfl))⟩
 f27:=⟨Tryz.f125.name,by decide,Tryz.func125.trans (congrArg some (by kernel_rfl))⟩
 f28:=⟨Tryz.f126.name,by decide,Tryz.func126.trans (congrArg some (by kernel_rfl))⟩
 f29:=⟨Tryz.f127.name,by decide,Tryz.func127.trans (congrArg some (by kernel_rfl))⟩
 f31:=Tryz.func144.trans (congrArg some (by kernel_rfl))
 f32:=Tryz.func145.trans (congrArg some (by kernel_rfl))
 f36:=⟨Tryz.f148.name,by decide,Tryz.func148.trans (congrArg some (by kernel_rfl))⟩
 f37:=⟨Tryz.f149.name,by decide,Tryz.func149.trans (congrArg some (by kernel_rfl))⟩
 f38:=⟨Tryz.f150.name,by decide,Tryz.func150.trans (congrArg some (by kernel_rfl))⟩
 f39:=⟨Tryz.f151.name,by decide,Tryz.func151.trans (congrArg some (by kernel_rfl))⟩
 f41:=⟨Tryz.f161.name,by decide,Tryz.func161.trans (congrArg some (by kernel_rfl))⟩
 t0:=Tryz.underlying0
 a0:=Tryz.isAgg0
 z0:=Tryz.sizeOf0
 v0:=Tryz.zeroValue0
 t3:=Tryz.underlying3
 a3:=Tryz.isAgg3
 z3:=Tryz.sizeOf3
 v3:=Tryz.zeroValue3
 t4:=Tryz.underlying4
 a4:=Tryz.isAgg4
 z4:=Tryz.sizeOf4
 v4:=Tryz.zeroValue4
 t5:=Tryz.underlying5
 a5:=Tryz.isAgg5
 z5:=Tryz.sizeOf5
 v5:=Tryz.zeroValue5
 t9:=Tryz.underlying9
 a9:=Tryz.isAgg9
 z9:=Tryz.sizeOf9
 v9:=Tryz.zeroValue9
 t26:=Tryz.underlying34
 a26:=Tryz.isAgg34
 z26:=Tryz.sizeOf34
 v26:=Tryz.zeroValue34
 t27:=Tryz.underlying34
 a27:=Tryz.isAgg34
 z27:=Tryz.sizeOf34
 v27:=Tryz.zeroValue34
 t29:=Tryz.underlying9
 a29:=Tryz.isAgg9
 z29:=Tryz.sizeOf9
 v29:=Tryz.zeroValue9
 t32:=Tryz.underlying101
 a32:=Tryz.isAgg101
 z32:=Tryz.sizeOf101
 v32:=Tryz.zeroValue101
 t35:=Tryz.underlying138
 a35:=Tryz.isAgg138
 z35:=Tryz.sizeOf138
 v35:=Tryz.zeroValue138
 t36:=Tryz.underlying139
 a36:=Tryz.isAgg139
 z36:=Tryz.sizeOf139
 v36:=Tryz.zeroValue139
 t41:=Tryz.underlying144
 a41:=Tryz.isAgg144
 z41:=Tryz.sizeOf144
 v41:=Tryz.zeroValue144
 t44:=Tryz.underlying147
 a44:=Tryz.isAgg147
 z44:=Tryz.sizeOf147
 v44:=Tryz.zeroValue147
 t46:=Tryz.underlying47
 a46:=Tryz.isAgg47
 z46:=Tryz.sizeOf47
 v46:=Tryz.zeroValue47
 t53:=Tryz.underlying165
 a53:=Tryz.isAgg165
 z53:=Tryz.sizeOf165
 v53:=Tryz.zeroValue165
 t57:=Tryz.underlying169
 a57:=Tryz.isAgg169
 z57:=Tryz.sizeOf169
 v57:=Tryz.zeroValue169
 t63:=Tryz.underlying177
 a63:=Tryz.isAgg177
 z63:=Tryz.sizeOf177
 v63:=Tryz.zeroValue177
 t64:=Tryz.underlying178
 a64:=Tryz.isAgg178
 z64:=Tryz.sizeOf178
 v64:=Tryz.zeroValue178 }
def Tryz.l79_ren:Go.Shelf.Ren:=⟨fun | 6=>79 | 15=>93 | 14=>96 | 28=>117 | 29=>118 | 20=>128 | 21=>129 | 22=>130 | 23=>131 | 24=>132 | 25=>133 | 26=>134 | 27=>135 | 46=>152 | 47=>144 | 48=>145 | 49=>153 | 50=>154 | 57=>162 | n=>n,fun | 22=>23 | 24=>55 | 25=>112 | 3=>3 | 39=>101 | 0=>0 | 53=>147 | 55=>47 | 4=>4 | 46=>139 | 45=>138 | 50=>144 | 5=>5 | 9=>9 | 66=>165 | 70=>169 | 76=>177 | 77=>178 | n=>n,fun | n=>n⟩
theorem Tryz.l79:Go.Proofs.SlLaysF0.n6 Tryz.prog Tryz.l79_ren:={
 mixed:=by kernel_rfl
 f6:=⟨Tryz.f79.name,by decide,Tryz.func79.trans (congrArg some (by kernel_rfl))⟩
 f14:=⟨Tryz.f96.name,by decide,Tryz.func96.trans (congrArg some (by kernel_rfl))⟩
 f15:=Tryz.func93.trans (congrArg some (by kernel_rfl))
 f20:=⟨Tryz.f128.name,by decide,Tryz.func128.trans (congrArg some (by kernel_rfl))⟩
 f21:=⟨Tryz.f129.name,by decide,Tryz.func129.trans (congrArg some (by kernel_rfl))⟩
 f22:=⟨Tryz.f130.name,by decide,Tryz.func130.trans (congrArg some (by kernel_rfl))⟩
 f23:=⟨Tryz.f131.name,by decide,Tryz.func131.trans (congrArg some (by kernel_rfl))⟩
 f24:=⟨Tryz.f132.name,by decide,Tryz.func132.trans (congrArg some (by kernel_rfl))⟩
 f25:=⟨Tryz.f133.name,by decide,Tryz.func133.trans (congrArg some (by kernel_rfl))⟩
 f26:=⟨Tryz.f134.name,by decide,Tryz.func134.trans (congrArg some (by kernel_rfl))⟩
 f27:=⟨Tryz.f135.name,by decide,Tryz.func135.trans (congrArg some (by kernel_rfl))⟩
 f28:=Tryz.func117.trans (congrArg some (by kernel_rfl))
 f29:=Tryz.func118.trans (congrArg some (by kernel_rfl))
 f46:=⟨Tryz.f152.name,by decide,Tryz.func152.trans (congrArg some (by kernel_rfl))⟩
 f47:=Tryz.func144.trans (congrArg some (by kernel_rfl))
 f48:=Tryz.func145.trans (congrArg some (by kernel_rfl))
 f49:=⟨Tryz.f153.name,by decide,Tryz.func153.trans (congrArg some (by kernel_rfl))⟩
 f50:=⟨Tryz.f154.name,by decide,Tryz.func154.trans (congrArg some (by kernel_rfl))⟩
 f57:=⟨Tryz.f162.name,by decide,Tryz.func162.trans (congrArg some (by kernel_rfl))⟩
 t0:=Tryz.underlying0
 a0:=Tryz.isAgg0
 z0:=Tryz.sizeOf0
 v0:=Tryz.zeroValue0
 t3:=Tryz.underlying3
 a3:=Tryz.isAgg3
 z3:=Tryz.sizeOf3
 v3:=Tryz.zeroValue3
 t4:=Tryz.underlying4
 a4:=Tryz.isAgg4
 z4:=Tryz.sizeOf4
 v4:=Tryz.zeroValue4
 t5:=Tryz.underlying5
 a5:=Tryz.isAgg5
 z5:=Tryz.sizeOf5
 v5:=Tryz.zeroValue5
 t9:=Tryz.underlying9
 a9:=Tryz.isAgg9
 z9:=Tryz.sizeOf9
 v9:=Tryz.zeroValue9
 t22:=Tryz.underlying23
 a22:=Tryz.isAgg23
 z22:=Tryz.sizeOf23
 v22:=Tryz.zeroValue23
 t25:=Tryz.underlying112
 a25:=Tryz.isAgg112
 z25:=Tryz.sizeOf112
 v25:=Tryz.zeroValue112
 t39:=Tryz.underlying101
 a39:=Tryz.isAgg101
 z39:=Tryz.sizeOf101
 v39:=Tryz.zeroValue101
 t45:=Tryz.underlying138
 a45:=Tryz.isAgg138
 z45:=Tryz.sizeOf138
 v45:=Tryz.zeroValue138
 t46:=Tryz.underlying139
 a46:=Tryz.isAgg139
 z46:=Tryz.sizeOf139
 v46:=Tryz.zeroValue139
 t50:=Tryz.underlying144
 a50:=Tryz.isAgg144
 z50:=Tryz.sizeOf144
 v50:=Tryz.zeroValue144
 t53:=Tryz.underlying147
 a53:=Tryz.isAgg147
 z53:=Tryz.sizeOf147
 v53:=Tryz.zeroValue147
 t55:=Tryz.underlying47
 a55:=Tryz.isAgg47
 z55:=Tryz.sizeOf47
 v55:=Tryz.zeroValue47
 t66:=Tryz.underlying165
 a66:=Tryz.isAgg165
 z66:=Tryz.sizeOf165
 v66:=Tryz.zeroValue165
 t70:=Tryz.underlying169
 a70:=Tryz.isAgg169
 z70:=Tryz.sizeOf169
 v70:=Tryz.zeroValue169
 t76:=Tryz.underlying177
 a76:=Tryz.isAgg177
 z76:=Tryz.sizeOf177
 v76:=Tryz.zeroValue177
 t77:=Tryz.underlying178
 a77:=Tryz.isAgg178
 z77:=Tryz.sizeOf178
 v77:=Tryz.zeroValue178 }
def Tryz.l86_ren:Go.Shelf.Ren:=⟨fun | 160=>86 | 232=>102 | 231=>101 | 227=>103 | 234=>105 | 233=>104 | 236=>107 | 235=>106 | 228=>139 | 271=>142 | 151=>141 | 197=>140 | 120=>159 | 152=>158 | 260=>157 | 137=>164 | 119=>165 | 224=>166 | 225=>167 | 217=>168 | 266=>169 | n=>n,fun | 9=>9 | 4=>4 | 3=>3 | 5=>5 | 117=>133 | 116=>132 | 0=>0 | 124=>136 | 21=>21 | 105=>162 | 46=>101 | 119=>183 | 139=>186 | 138=>185 | n=>n,fun | 3=>0 | 4=>1 | n=>n⟩
theorem Tryz.l86:Go.Proofs.Lays.n160 Tryz.prog Tryz.l86_ren:={
 mixed:=by kernel_rfl
 f119:=Tryz.func165.trans (congrArg some (by kernel_rfl))
 f120:=Tryz.func159.trans (congrArg some (by kernel_rfl))
 f137:=Tryz.func164.trans (congrArg some (by kernel_rfl))
 f151:=Tryz.func141.trans (congrArg some (by kernel_rfl))
 f152:=Tryz.func158.trans (congrArg some (by kernel_rfl))
 f160:=Tryz.func86.trans (congrArg some (by kernel_rfl))
 f197:=Tryz.func140.trans (congrArg some (by kernel_rfl))
 f217:=Tryz.func168.trans (congrArg some (by kernel_rfl))
 f224:=Tryz.func166.trans (congrArg some (by kernel_rfl))
 f225:=Tryz.func167.trans (congrArg some (by kernel_rfl))
 f227:=Tryz.func103.trans (congrArg some (by kernel_rfl))
 f228:=Tryz.func139.trans (congrArg some (by kernel_rfl))
 f231:=Tryz.func101.trans (congrArg some (by kernel_rfl))
 f232:=Tryz.func102.trans (congrArg some (by kernel_rfl))
 f233:=Tryz.func104.trans (congrArg some (by kernel_rfl))
 f234:=Tryz.func105.trans (congrArg some (by kernel_rfl))
 f235:=Tryz.func106.trans (congrArg some (by kernel_rfl))
 f236:=Tryz.func107.trans (congrArg some (by kernel_rfl))
 f260:=Tryz.func157.trans (congrArg some (by kernel_rfl))
 f266:=Tryz.func169.trans (congrArg some (by kernel_rfl))
 f271:=Tryz.func142.trans (congrArg some (by kernel_rfl))
 t0:=Tryz.underlying0
 a0:=Tryz.isAgg0
 z0:=Tryz.sizeOf0
 v0:=Tryz.zeroValue0
 t3:=Tryz.underlying3
 a3:=Tryz.isAgg3
 z3:=Tryz.sizeOf3
 v3:=Tryz.zeroValue3
 t4:=Tryz.underlying4
 a4:=Tryz.isAgg4
 z4:=Tryz.sizeOf4
 v4:=Tryz.zeroValue4
 t5:=Tryz.underlying5
 a5:=Tryz.isAgg5
 z5:=Tryz.sizeOf5
 v5:=Tryz.zeroValue5
 t9:=Tryz.underlying9
 a9:=Tryz.isAgg9
 z9:=Tryz.sizeOf9
 v9:=Tryz.zeroValue9
 t21:=Tryz.underlying21
 a21:=Tryz.isAgg21
 z21:=Tryz.sizeOf21
 v21:=Tryz.zeroValue21
 t46:=Tryz.underlying101
 a46:=Tryz.isAgg101
 z46:=Tryz.sizeOf101
 v46:=Tryz.zeroValue101
 t105:=Tryz.underlying162
 a105:=Tryz.isAgg162
 z105:=Tryz.sizeOf162
 v105:=Tryz.zeroValue162
 t116:=Tryz.underlying132
 a116:=Tryz.isAgg132
 z116:=Tryz.sizeOf132
 t117:=Tryz.underlying133
 a117:=Tryz.isAgg133
 z117:=Tryz.sizeOf133
 v117:=Tryz.zeroValue133
 t119:=Tryz.underlying183
 a119:=Tryz.isAgg183
 z119:=Tryz.sizeOf183
 t124:=Tryz.underlying136
 a124:=Tryz.isAgg136
 z124:=Tryz.sizeOf136
 v124:=Tryz.zeroValue136
 t138:=Tryz.underlying185
 a138:=Tryz.isAgg185
 z138:=Tryz.sizeOf185
 v138:=Tryz.zeroValue185
 t139:=Tryz.underlying186
 a139:=Tryz.isAgg186
 z139:=Tryz.sizeOf186
 v139:=Tryz.zeroValue186
 g3:=by kernel_rfl
 g4:=by kernel_rfl }
end Go.Proofs
namespace Go.AX.Q20
open Go Go.AX Go.Proofs Go.Maps Go.Sort Go.Shelf Go.RowKit
theorem sorts41 (m:Nat):AnyZI.SortsIn Tryz.prog Tryz.l41_ren Fence.wide m:=
 ⟨fun blk off cap ss W hH hblk hsz=>callsIn_wide.2 (AnyM.slices_Sort_int Tryz.l74 blk off cap ss W hH hblk hsz),fun p cap W=>callsIn_wide.2 (AnyM.slices_Sort_int_none Tryz.l74 p cap W)⟩
theorem sorted41_ok {V:Type} {ev:V→D} {m:List (Int×V)} {r:List Int} (h:keysSI m=some r) {k e:Nat}:CallsOK True Tryz.prog 41 [.it 75 0] [.map k e (entsD D.i ev m)] (.own 1 (List.map D.i r).length) [.map k e (entsD D.i ev m),.row 3 1 (List.map D.i r) false]:=
 sortedKeysI_ok Tryz.l42 Tryz.l41 (fnOK Tryz.func41 (by kernel_rfl) (by kernel_rfl)) sorts41 (enters_of Tryz.func74 (by kernel_rfl) rfl) (enters_of Tryz.func75 (by kernel_rfl) rfl) h
theorem keys42_ok {wl:Prop} {k e:Nat} {es:List (D×D)}:CallsOK wl Tryz.prog 42 [.mp 0] [.map k e es] (.it 75 0) [.map k e es]:=
 keys_core (fnOK Tryz.func42 (by kernel_rfl) (by kernel_rfl)) fun b w=>callsIn_wide.1 (AnyZI.keys_in Tryz.l42 Fence.wide 5 trivial rfl (some b) w)
theorem sorts43 (m:Nat):AnyZ.SortsIn Tryz.prog Tryz.l43_ren Fence.wide m:=
 ⟨fun blk off cap ss W hH hblk hsz=>callsIn_wide.2 (AnyM.slices_Sort_string Tryz.l77 blk off cap ss W hH hblk hsz),fun p cap W=>callsIn_wide.2 (AnyM.slices_Sort_string_none Tryz.l77 p cap W)⟩
theorem sorted43_ok {V:Type} {ev:V→D} {m:List (ByteArray×V)} {r:List ByteArray} (h:keysSS m=some r) {k e:Nat}:CallsOK True Tryz.prog 43 [.it 78 0] [.map k e (entsD D.s ev m)] (.own 1 (List.map D.s r).length) [.map k e (entsD D.s ev m),.row 9 1 (List.map D.s r) false]:=
 sortedKeysS_ok Tryz.l44 Tryz.l43 (fnOK Tryz.func43 (by kernel_rfl) (by kernel_rfl)) sorts43 (enters_of Tryz.func77 (by kernel_rfl) rfl) (enters_of Tryz.func78 (by kernel_rfl) rfl) h
theorem keys44_ok {wl:Prop} {k e:Nat} {es:List (D×D)}:CallsOK wl Tryz.prog 44 [.mp 0] [.map k e es] (.it 78 0) [.map k e es]:=
 keys_core (fnOK Tryz.func44 (by kernel_rfl) (by kernel_rfl)) fun b w=>callsIn_wide.1 (AnyZ.keys_in Tryz.l44 Fence.wide 5 trivial rfl (some b) w)
theorem sortf79_ok {wl:Prop} {X:Type} {f:X→D} {cmp:X→X→Option Int} {g:Nat} (eg :∀args w,(callFunc g args).run Tryz.prog w=.ok (.enter g args) w) (hcmp :∀{a b r},cmp a b=some r→CallsOK False Tryz.prog g [.d (f a),.d (f b)] [] (.d (D.i r)) []) {l r:List X} (h:sortF cmp l=some r) (hagg :∀x,(f x).isAgg=true:=by exact fun _=>rfl):CallsOK wl Tryz.prog 79 [.own 0 (List.map f l).length,.fn g []] [.row 55 6 (List.map f l) false] (.tup []) [.row 55 6 (List.map f r) false]:=
 sortF_ok Tryz.l79 (fnOK Tryz.func79 (by kernel_rfl) (by kernel_rfl)) Tryz.isAgg55 Tryz.sizeOf55 eg hagg hcmp h
theorem trim86_ok {wl:Prop} {s cut r:ByteArray} (h:trimC s cut=some r):CallsOK wl Tryz.prog 86 [.d (D.s s),.d (D.s cut)] [] (.d (D.s r)) []:=
 trimC_ok Tryz.l86 (fnOK Tryz.func86 (by kernel_rfl) (by kernel_rfl)) (by kernel_rfl) h
end Go.AX.Q20
end
section
namespace Go.AX.Q20
open Go Go.AX Go.Proofs
set_option maxRecDepth 100000
set_option maxHeartbeats 4000000
set_option linter.unusedVariables false
def keep:FuncId→List Bool:=fun f=>(match Nat.beq f 79 with | true=>[true] | false=>(match Nat.beq f 83 with | true=>[true] | false=>(match Nat.beq f 58 with | true=>[true] | false=>(match Nat.beq f 81 with | true=>[true] | false=>[]))))
abbrev cx (wl:Prop) (n:Nat):Cx:=⟨tt,n,CallsOK wl Tryz.prog,keep⟩
theorem ok {wl:Prop} {f:FuncId} (fn:Func) {args:List AV} {objs:List OB} {res:AV} {objs':List OB}
    (hf : Tryz.prog.funcs[f]? = some fn) (hn : (fn.name == "runtime.NumGoroutine") = false) (h : funK (cx wl objs.length) fn args objs fun r o => r = res ∧ o = objs') : CallsOK wl Tryz.prog f args objs res objs' :=
  fn_ok tabOk (by kernel_rfl) keep hf hn h
abbrev X:AV:=.dead
abbrev N:Option OB:=none
def dd:Nat→List AV→List AV
  | 0,l=>l
  | n + 1,l=>.dead::dd n l
def nn:Nat→List (Option OB)→List (Option OB)
  | 0,l=>l
  | n + 1,l=>none::nn n l
end Go.AX.Q20
end
section
namespace Go.AX.Q20
open Go Go.AX Go.Proofs
set_option maxRecDepth 100000
set_option maxHeartbeats 4000000
set_option linter.unusedVariables false
theorem law20_light_ok {wl:Prop} {a0:Registry} {r:Bool} (h:law20_light a0=some r):CallsOK wl Tryz.prog 9 [AV.d (Registry.toD a0)] [] (.d (D.b r)) []:=by
 refine ok Tryz.f9 (by kernel_rfl) (by kernel_rfl) ⟨rfl,?_⟩;unfold law20_light at h;refine ⟨a0.Sets.length,List.length_map _,?_⟩;revert h;refine cut_join (fun _=>⟨X::AV.ref 1 0::dd 37 ([]),N::some (OB.box (Registry.av a0))::nn 37 ([])⟩) ?_ ?_
 ·intro k1 h;revert h;refine loop_for 6 3 Set.toD rfl (fun i2 _=>⟨X::AV.ref 1 0::dd 4 (AV.d (D.l 3 Set.toD a0.Sets)::AV.d (D.i (a0.Sets.length:Int))::AV.d (D.i (i2:Int))::dd 30 ([])),N::some (OB.box (Registry.av a0))::nn 37 ([])⟩) ?_ ?_ ?_
  ·exact wk
  ·rintro _ K3 h;(conv=>whnf);refine .go ?_;(conv=>whnf);refine sel_f lt_f ?_;exact join_end wk h
  ·rintro next4 i2 x5 _ K3 hii2 hxi2 hwi2 h hK6;(conv=>whnf);refine .go ?_;(conv=>whnf);refine sel_t (lt_t hii2) ?_;(conv=>whnf);refine .go ?_;refine ⟨idx_b (f:=Set.toD) hii2,Set.toD x5,hxi2,rfl,?_⟩;revert h;refine cut_join (fun v7=>⟨X::AV.ref 1 0::dd 4 (AV.d (D.l 3 Set.toD a0.Sets)::AV.d (D.i (a0.Sets.length:Int))::AV.d (D.i (i2:Int))::dd 18 (AV.d (D.b v7)::dd 11 ([]))),N::some (OB.box (Registry.av a0))::nn 37 ([])⟩) ?_ ?_
   ·intro k8 h;revert h;refine sel_if ?_ ?_<;>intro h
    ·exact join_end wk h
    ·refine ⟨x5.ASNs.length,List.length_map _,?_⟩;revert h;refine sel_if ?_ ?_<;>intro h
     ·exact join_end wk h
     ·refine ⟨x5.Sets.length,List.length_map _,?_⟩;exact join_end wk h
   ·rintro v7 h;(conv=>whnf);refine .go ?_;revert h;refine sel_if ?_ ?_<;>intro h
    ·cases h;exact ⟨rfl,rfl⟩
    ·refine ⟨_,hwi2,?_⟩;exact hK6 _ _ wk h
 ·rintro _ h;revert h;refine cut_join (fun v9=>⟨X::X::AV.d (D.b v9)::dd 36 ([]),nn 39 ([])⟩) ?_ ?_
  ·intro k10 h;refine ⟨a0.Sets.length,List.length_map _,?_⟩;revert h;refine sel_if ?_ ?_<;>intro h
   ·refine ⟨a0.Objects.length,List.length_map _,?_⟩;exact join_end wk h
   ·exact join_end wk h
  ·rintro v9 h;cases h;exact ⟨rfl,rfl⟩
theorem aspath_Number_ok {wl:Prop} {a0:Int} {r:Bool} (h:aspath_Number a0=some r):CallsOK wl Tryz.prog 38 [AV.d (D.i a0)] [] (.d (D.b r)) []:=by
 refine ok Tryz.f38 (by kernel_rfl) (by kernel_rfl) ⟨rfl,?_⟩;unfold aspath_Number at h;revert h;refine cut_join (fun v1=>⟨X::X::AV.d (D.b v1)::dd 6 ([]),nn 9 ([])⟩) ?_ ?_
 ·intro k2 h;revert h;refine sel_if ?_ ?_<;>intro h
  ·exact join_end wk h
  ·exact join_end wk h
 ·rintro v1 h;cases h;exact ⟨rfl,rfl⟩
theorem irr_set_1_ok {wl:Prop} {a0:Int} {r:Bool} (h:irr_set_1 a0=some r):CallsOK wl Tryz.prog 65 [AV.d (D.i a0)] [] (.d (D.b r)) []:=by
 refine ok Tryz.f65 (by kernel_rfl) (by kernel_rfl) ⟨rfl,?_⟩;unfold irr_set_1 at h;obtain ⟨v1,g2,h⟩:=bind_inv h;refine ⟨_,_,some [],aspath_Number_ok g2,?_⟩;cases h;exact ⟨rfl,rfl⟩
theorem member_within_ok {wl:Prop} {a0:Int} {a1:Int} {a2:Int} {r:Bool} (h:member_within a0 a1 a2=some r):CallsOK wl Tryz.prog 87 [AV.d (D.i a0),AV.d (D.i a1),AV.d (D.i a2)] [] (.d (D.b r)) []:=by
 refine ok Tryz.f87 (by kernel_rfl) (by kernel_rfl) ⟨rfl,?_⟩;unfold member_within at h;revert h;refine cut_join (fun v1=>⟨dd 6 (AV.d (D.b v1)::dd 8 ([])),nn 15 ([])⟩) ?_ ?_
 ·intro k2 h;revert h;refine sel_if ?_ ?_<;>intro h
  ·exact join_end wk h
  ·exact join_end wk h
 ·rintro v1 h;cases h;exact ⟨rfl,rfl⟩
theorem member_Named_ok {wl:Prop} {a0:ByteArray} {r:Bool} (h:member_Named a0=some r):CallsOK wl Tryz.prog 67 [AV.d (D.s a0)] [] (.d (D.b r)) []:=by
 refine ok Tryz.f67 (by kernel_rfl) (by kernel_rfl) ⟨rfl,?_⟩;unfold member_Named at h;obtain ⟨v1,g2,h⟩:=bind_inv h;refine ⟨_,_,some [],trim86_ok g2,?_⟩;revert h;refine cut_join (fun v3=>⟨X::X::AV.d (D.b v3)::dd 10 ([]),nn 13 ([])⟩) ?_ ?_
 ·intro k4 h;obtain ⟨v5,g6,h⟩:=bind_inv h;refine ⟨_,_,some [],member_within_ok g6,?_⟩;revert h;refine sel_if ?_ ?_<;>intro h
  ·exact join_end wk h
  ·exact join_end wk h
 ·rintro v3 h;cases h;exact ⟨rfl,rfl⟩
theorem irr_set_2_ok {wl:Prop} {a0:ByteArray} {r:Bool} (h:irr_set_2 a0=some r):CallsOK wl Tryz.prog 66 [AV.d (D.s a0)] [] (.d (D.b r)) []:=by
 refine ok Tryz.f66 (by kernel_rfl) (by kernel_rfl) ⟨rfl,?_⟩;unfold irr_set_2 at h;obtain ⟨v1,g2,h⟩:=bind_inv h;refine ⟨_,_,some [],member_Named_ok g2,?_⟩;cases h;exact ⟨rfl,rfl⟩
theorem slices_IndexFunc_int_int__irr_set_1_ok {wl:Prop} {a0:List Int} {r:Int} (h:slices_IndexFunc_int_int__irr_set_1 a0=some r):CallsOK wl Tryz.prog 88 [AV.d (D.l 1 D.i a0),AV.fn 65 []] [] (.d (D.i r)) []:=by
 refine ok Tryz.f88 (by kernel_rfl) (by kernel_rfl) ⟨rfl,?_⟩;unfold slices_IndexFunc_int_int__irr_set_1 at h;refine ⟨a0.length,List.length_map _,?_⟩;revert h;refine cut_join (fun _=>⟨dd 19 ([]),nn 19 ([])⟩) ?_ ?_
 ·intro k1 h;revert h;refine loop_for 6 1 D.i rfl (fun i2 _=>⟨AV.d (D.l 1 D.i a0)::AV.fn 65 []::dd 4 (AV.d (D.l 1 D.i a0)::AV.d (D.i (a0.length:Int))::AV.d (D.i (i2:Int))::dd 10 ([])),nn 19 ([])⟩) ?_ ?_ ?_
  ·exact wk
  ·rintro _ K3 h;(conv=>whnf);refine .go ?_;(conv=>whnf);refine sel_f lt_f ?_;exact join_end wk h
  ·rintro next4 i2 x5 _ K3 hii2 hxi2 hwi2 h hK6;(conv=>whnf);refine .go ?_;(conv=>whnf);refine sel_t (lt_t hii2) ?_;(conv=>whnf);refine .go ?_;refine ⟨idx_b (f:=D.i) hii2,D.i x5,hxi2,rfl,?_⟩;obtain ⟨v7,g8,h⟩:=bind_inv h;refine ⟨_,_,some [],irr_set_1_ok g8,?_⟩;(conv=>whnf);refine .go ?_;revert h;refine sel_if ?_ ?_<;>intro h
   ·cases h;exact ⟨rfl,rfl⟩
   ·refine ⟨_,hwi2,?_⟩;exact hK6 _ _ wk h
 ·rintro _ h;cases h;exact ⟨rfl,rfl⟩
theorem slices_ContainsFunc_int_int__irr_set_1_ok {wl:Prop} {a0:List Int} {r:Bool} (h:slices_ContainsFunc_int_int__irr_set_1 a0=some r):CallsOK wl Tryz.prog 68 [AV.d (D.l 1 D.i a0),AV.fn 65 []] [] (.d (D.b r)) []:=by
 refine ok Tryz.f68 (by kernel_rfl) (by kernel_rfl) ⟨rfl,?_⟩;unfold slices_ContainsFunc_int_int__irr_set_1 at h;obtain ⟨v1,g2,h⟩:=bind_inv h;refine ⟨_,_,some [],slices_IndexFunc_int_int__irr_set_1_ok g2,?_⟩;cases h;exact ⟨rfl,rfl⟩
theorem slices_IndexFunc_string_string__irr_set_2_ok {wl:Prop} {a0:List ByteArray} {r:Int} (h:slices_IndexFunc_string_string__irr_set_2 a0=some r):CallsOK wl Tryz.prog 89 [AV.d (D.l 1 D.s a0),AV.fn 66 []] [] (.d (D.i r)) []:=by
 refine ok Tryz.f89 (by kernel_rfl) (by kernel_rfl) ⟨rfl,?_⟩;unfold slices_IndexFunc_string_string__irr_set_2 at h;refine ⟨a0.length,List.length_map _,?_⟩;revert h;refine cut_join (fun _=>⟨dd 19 ([]),nn 19 ([])⟩) ?_ ?_
 ·intro k1 h;revert h;refine loop_for 6 1 D.s rfl (fun i2 _=>⟨AV.d (D.l 1 D.s a0)::AV.fn 66 []::dd 4 (AV.d (D.l 1 D.s a0)::AV.d (D.i (a0.length:Int))::AV.d (D.i (i2:Int))::dd 10 ([])),nn 19 ([])⟩) ?_ ?_ ?_
  ·exact wk
  ·rintro _ K3 h;(conv=>whnf);refine .go ?_;(conv=>whnf);refine sel_f lt_f ?_;exact join_end wk h
  ·rintro next4 i2 x5 _ K3 hii2 hxi2 hwi2 h hK6;(conv=>whnf);refine .go ?_;(conv=>whnf);refine sel_t (lt_t hii2) ?_;(conv=>whnf);refine .go ?_;refine ⟨idx_b (f:=D.s) hii2,D.s x5,hxi2,rfl,?_⟩;obtain ⟨v7,g8,h⟩:=bind_inv h;refine ⟨_,_,some [],irr_set_2_ok g8,?_⟩;(conv=>whnf);refine .go ?_;revert h;refine sel_if ?_ ?_<;>intro h
   ·cases h;exact ⟨rfl,rfl⟩
   ·refine ⟨_,hwi2,?_⟩;exact hK6 _ _ wk h
 ·rintro _ h;cases h;exact ⟨rfl,rfl⟩
theorem slices_ContainsFunc_string_string__irr_set_2_ok {wl:Prop} {a0:List ByteArray} {r:Bool} (h:slices_ContainsFunc_string_string__irr_set_2 a0=some r):CallsOK wl Tryz.prog 69 [AV.d (D.l 1 D.s a0),AV.fn 66 []] [] (.d (D.b r)) []:=by
 refine ok Tryz.f69 (by kernel_rfl) (by kernel_rfl) ⟨rfl,?_⟩;unfold slices_ContainsFunc_string_string__irr_set_2 at h;obtain ⟨v1,g2,h⟩:=bind_inv h;refine ⟨_,_,some [],slices_IndexFunc_string_string__irr_set_2_ok g2,?_⟩;cases h;exact ⟨rfl,rfl⟩
theorem irr_set_ok {wl:Prop} {a0:Set} {r:Bool} (h:irr_set a0=some r):CallsOK wl Tryz.prog 35 [AV.d (Set.toD a0)] [] (.d (D.b r)) []:=by
 refine ok Tryz.f35 (by kernel_rfl) (by kernel_rfl) ⟨rfl,?_⟩;unfold irr_set at h;revert h;refine cut_join (fun v1=>⟨X::X::AV.d (D.b v1)::dd 31 ([]),nn 34 ([])⟩) ?_ ?_
 ·intro k2 h;obtain ⟨v3,g4,h⟩:=bind_inv h;refine ⟨_,_,some [],member_Named_ok g4,?_⟩;revert h;refine sel_if ?_ ?_<;>intro h
  ·refine ⟨a0.ASNs.length,List.length_map _,?_⟩;revert h;refine sel_if ?_ ?_<;>intro h
   ·refine ⟨a0.Sets.length,List.length_map _,?_⟩;revert h;refine sel_if ?_ ?_<;>intro h
    ·obtain ⟨v5,g6,h⟩:=bind_inv h;refine ⟨_,_,some [],slices_ContainsFunc_int_int__irr_set_1_ok g6,?_⟩;revert h;refine sel_if ?_ ?_<;>intro h
     ·obtain ⟨v7,g8,h⟩:=bind_inv h;refine ⟨_,_,some [],slices_ContainsFunc_string_string__irr_set_2_ok g8,?_⟩;exact join_end wk h
     ·exact join_end wk h
    ·exact join_end wk h
   ·exact join_end wk h
  ·exact join_end wk h
 ·rintro v1 h;cases h;exact ⟨rfl,rfl⟩
theorem addr_Valid_ok {wl:Prop} {a0:Addr} {r:Bool} (h:addr_Valid a0=some r):CallsOK wl Tryz.prog 70 [AV.d (Addr.toD a0)] [] (.d (D.b r)) []:=by
 refine ok Tryz.f70 (by kernel_rfl) (by kernel_rfl) ⟨rfl,?_⟩;unfold addr_Valid at h;revert h;refine cut_join (fun v1=>⟨X::X::AV.d (D.b v1)::dd 12 ([]),nn 15 ([])⟩) ?_ ?_
 ·intro k2 h;revert h;refine sel_if ?_ ?_<;>intro h
  ·exact join_end wk h
  ·revert h;refine sel_if ?_ ?_<;>intro h
   ·exact join_end wk h
   ·exact join_end wk h
 ·rintro v1 h;cases h;exact ⟨rfl,rfl⟩
theorem prefix_width_ok {wl:Prop} {a0:Addr} {r:Int} (h:prefix_width a0=some r):CallsOK wl Tryz.prog 71 [AV.d (Addr.toD a0)] [] (.d (D.i r)) []:=by
 refine ok Tryz.f71 (by kernel_rfl) (by kernel_rfl) ⟨rfl,?_⟩;unfold prefix_width at h;(conv=>whnf);refine .go ?_;revert h;refine sel_if ?_ ?_<;>intro h
 ·cases h;exact ⟨rfl,rfl⟩
 ·cases h;exact ⟨rfl,rfl⟩
theorem prefix_masks_ok {wl:Prop} {a0:Int} {r:UInt64×UInt64} (h:prefix_masks a0=some r):CallsOK wl Tryz.prog 90 [AV.d (D.i a0)] [] (.tup [.d (D.u64 r.1),.d (D.u64 r.2)]) []:=by
 refine ok Tryz.f90 (by kernel_rfl) (by kernel_rfl) ⟨rfl,?_⟩;unfold prefix_masks at h;(conv=>whnf);refine .go ?_;revert h;refine sel_if ?_ ?_<;>intro h
 ·refine ⟨_,rfl,?_⟩;refine ⟨_,u64_wrap _,?_⟩;refine ⟨Int.natCast_nonneg _,_,u64_wrap _,?_⟩;refine ⟨_,u64_wrap _,?_⟩;cases h;exact ⟨rfl,rfl⟩
 ·refine ⟨_,u64_wrap _,?_⟩;refine ⟨Int.natCast_nonneg _,_,u64_wrap _,?_⟩;refine ⟨_,u64_wrap _,?_⟩;cases h;exact ⟨rfl,rfl⟩
theorem prefix_first_ok {wl:Prop} {a0:Addr} {a1:Int} {r:Addr} (h:prefix_first a0 a1=some r):CallsOK wl Tryz.prog 72 [AV.d (Addr.toD a0),AV.d (D.i a1)] [] (.d (Addr.toD r)) []:=by
 refine ok Tryz.f72 (by kernel_rfl) (by kernel_rfl) ⟨rfl,?_⟩;unfold prefix_first at h;obtain ⟨v1,g2,h⟩:=bind_inv h;refine ⟨_,_,some [],prefix_width_ok g2,?_⟩;refine ⟨_,rfl,?_⟩;obtain ⟨⟨v3,v4⟩,g5,h⟩:=bind_inv h;refine ⟨_,_,some [],prefix_masks_ok g5,?_⟩;refine ⟨_,u64_wrap _,?_⟩;refine ⟨_,u64_wrap _,?_⟩;cases h;exact ⟨rfl,rfl⟩
theorem prefix_Valid_ok {wl:Prop} {a0:Prefix} {r:Bool} (h:prefix_Valid a0=some r):CallsOK wl Tryz.prog 36 [AV.d (Prefix.toD a0)] [] (.d (D.b r)) []:=by
 refine ok Tryz.f36 (by kernel_rfl) (by kernel_rfl) ⟨rfl,?_⟩;unfold prefix_Valid at h;revert h;refine cut_join (fun v1=>⟨X::X::AV.d (D.b v1)::dd 26 ([]),nn 29 ([])⟩) ?_ ?_
 ·intro k2 h;(conv=>whnf);refine dOB (by kernel_rfl) ?_;obtain ⟨v3,g4,h⟩:=bind_inv h;refine ⟨_,_,addr_Valid_ok g4,.inl rfl,?_⟩;revert h;refine sel_if ?_ ?_<;>intro h
  ·revert h;refine sel_if ?_ ?_<;>intro h
   ·obtain ⟨v5,g6,h⟩:=bind_inv h;refine ⟨_,_,prefix_width_ok g6,.inl rfl,?_⟩;revert h;refine sel_if ?_ ?_<;>intro h
    ·obtain ⟨v7,g8,h⟩:=bind_inv h;refine ⟨_,_,prefix_first_ok g8,.inl rfl,?_⟩;(conv=>whnf);refine cOB (by kernel_rfl) ?_;exact join_end wk h
    ·(conv=>whnf);refine cOB (by kernel_rfl) ?_;exact join_end wk h
   ·(conv=>whnf);refine cOB (by kernel_rfl) ?_;exact join_end wk h
  ·(conv=>whnf);refine cOB (by kernel_rfl) ?_;exact join_end wk h
 ·rintro v1 h;cases h;exact ⟨rfl,rfl⟩
theorem irr_width_ok {wl:Prop} {a0:Prefix} {r:Int} (h:irr_width a0=some r):CallsOK wl Tryz.prog 37 [AV.d (Prefix.toD a0)] [] (.d (D.i r)) []:=by
 refine ok Tryz.f37 (by kernel_rfl) (by kernel_rfl) ⟨rfl,?_⟩;unfold irr_width at h;(conv=>whnf);refine .go ?_;revert h;refine sel_if ?_ ?_<;>intro h
 ·cases h;exact ⟨rfl,rfl⟩
 ·cases h;exact ⟨rfl,rfl⟩
theorem irr_Valid_ok {wl:Prop} {a0:Registry} {r:Bool} (h:irr_Valid a0=some r):CallsOK wl Tryz.prog 14 [AV.d (Registry.toD a0)] [] (.d (D.b r)) []:=by
 refine ok Tryz.f14 (by kernel_rfl) (by kernel_rfl) ⟨rfl,?_⟩;unfold irr_Valid at h;refine ⟨a0.Sets.length,List.length_map _,?_⟩;revert h;refine cut_join (fun _=>⟨X::AV.ref 1 0::dd 71 ([]),N::some (OB.box (Registry.av a0))::nn 71 ([])⟩) ?_ ?_
 ·intro k1 h;revert h;refine loop_for 10 3 Set.toD rfl (fun i2 v3=>⟨X::AV.ref 1 0::X::AV.mp 8::dd 6 (AV.d (D.l 3 Set.toD a0.Sets)::AV.d (D.i (a0.Sets.length:Int))::AV.d (D.i (i2:Int))::dd 60 ([])),N::some (OB.box (Registry.av a0))::nn 6 (some (OB.map 9 4 (entsD D.s D.b v3))::nn 64 ([]))⟩) ?_ ?_ ?_
  ·exact wk
  ·rintro v3 K4 h;(conv=>whnf);refine .go ?_;(conv=>whnf);refine sel_f lt_f ?_;exact join_end wk h
  ·rintro next5 i2 x6 v3 K4 hii2 hxi2 hwi2 h hK7;(conv=>whnf);refine .go ?_;(conv=>whnf);refine sel_t (lt_t hii2) ?_;(conv=>whnf);refine .go ?_;refine ⟨idx_b (f:=Set.toD) hii2,Set.toD x6,hxi2,rfl,?_⟩;revert h;refine cut_join (fun v8=>⟨X::AV.ref 1 0::X::AV.mp 8::X::AV.ref 5 0::dd 4 (AV.d (D.l 3 Set.toD a0.Sets)::AV.d (D.i (a0.Sets.length:Int))::AV.d (D.i (i2:Int))::dd 11 (AV.d (D.b v8)::dd 48 ([]))),N::some (OB.box (Registry.av a0))::N::N::N::some (OB.box (Set.av x6))::N::N::some (OB.map 9 4 (entsD D.s D.b v3))::nn 64 ([])⟩) ?_ ?_
   ·intro k9 h;obtain ⟨v10,g11,h⟩:=bind_inv h;refine ⟨_,mapGet_ok (ek:=D.s) (ev:=D.b) (l:=v3) (k:=x6.Name) keyEq_s,D.b v10,mget_dg (z:=false) rfl g11,_,rfl,?_⟩;revert h;refine sel_if ?_ ?_<;>intro h
    ·exact join_end wk h
    ·obtain ⟨v12,g13,h⟩:=bind_inv h;refine ⟨_,_,some [],irr_set_ok g13,?_⟩;exact join_end wk h
   ·rintro v8 h;(conv=>whnf);refine .go ?_;revert h;refine sel_if ?_ ?_<;>intro h
    ·cases h;exact ⟨rfl,rfl⟩
    ·refine ⟨_,mapSet_ok (ek:=D.s) (ev:=D.b) (l:=v3) (k:=x6.Name) (v:=true) keyEq_s,?_⟩;refine ⟨_,hwi2,?_⟩;exact hK7 _ _ wk h
 ·rintro _ h;refine ⟨a0.Objects.length,List.length_map _,?_⟩;revert h;refine cut_join (fun _=>⟨X::AV.ref 1 0::dd 71 ([]),N::some (OB.box (Registry.av a0))::nn 71 ([])⟩) ?_ ?_
  ·intro k14 h;revert h;refine loop_for 30 6 Object.toD rfl (fun i15 _=>⟨X::AV.ref 1 0::dd 28 (AV.d (D.l 6 Object.toD a0.Objects)::AV.d (D.i (a0.Objects.length:Int))::AV.d (D.i (i15:Int))::dd 40 ([])),N::some (OB.box (Registry.av a0))::nn 71 ([])⟩) ?_ ?_ ?_
   ·exact wk
   ·rintro _ K16 h;(conv=>whnf);refine .go ?_;(conv=>whnf);refine sel_f lt_f ?_;exact join_end wk h
   ·rintro next17 i15 x18 _ K16 hii15 hxi15 hwi15 h hK19;(conv=>whnf);refine .go ?_;(conv=>whnf);refine sel_t (lt_t hii15) ?_;(conv=>whnf);refine .go ?_;refine ⟨idx_b (f:=Object.toD) hii15,Object.toD x18,hxi15,rfl,?_⟩;revert h;refine cut_join (fun v20=>⟨X::AV.ref 1 0::dd 28 (AV.d (D.l 6 Object.toD a0.Objects)::AV.d (D.i (a0.Objects.length:Int))::AV.d (D.i (i15:Int))::dd 28 (AV.d (D.b v20)::dd 11 ([]))),N::some (OB.box (Registry.av a0))::nn 71 ([])⟩) ?_ ?_
    ·intro k21 h;(conv=>whnf);refine dOB (by kernel_rfl) ?_;obtain ⟨v22,g23,h⟩:=bind_inv h;refine ⟨_,_,prefix_Valid_ok g23,.inl rfl,?_⟩;revert h;refine sel_if ?_ ?_<;>intro h
     ·(conv=>whnf);refine cOB (by kernel_rfl) ?_;exact join_end wk h
     ·revert h;refine sel_if ?_ ?_<;>intro h
      ·(conv=>whnf);refine cOB (by kernel_rfl) ?_;exact join_end wk h
      ·obtain ⟨v24,g25,h⟩:=bind_inv h;refine ⟨_,_,irr_width_ok g25,.inl rfl,?_⟩;revert h;refine sel_if ?_ ?_<;>intro h
       ·(conv=>whnf);refine cOB (by kernel_rfl) ?_;exact join_end wk h
       ·obtain ⟨v26,g27,h⟩:=bind_inv h;refine ⟨_,_,aspath_Number_ok g27,.inl rfl,?_⟩;(conv=>whnf);refine cOB (by kernel_rfl) ?_;exact join_end wk h
    ·rintro v20 h;(conv=>whnf);refine .go ?_;revert h;refine sel_if ?_ ?_<;>intro h
     ·cases h;exact ⟨rfl,rfl⟩
     ·refine ⟨_,hwi15,?_⟩;exact hK19 _ _ wk h
  ·rintro _ h;revert h;refine cut_join (fun v28=>⟨X::X::AV.d (D.b v28)::dd 70 ([]),nn 73 ([])⟩) ?_ ?_
   ·intro k29 h;refine ⟨a0.Sets.length,List.length_map _,?_⟩;revert h;refine sel_if ?_ ?_<;>intro h
    ·refine ⟨a0.Objects.length,List.length_map _,?_⟩;exact join_end wk h
    ·exact join_end wk h
   ·rintro v28 h;cases h;exact ⟨rfl,rfl⟩
theorem irr_Expand_ok {a0:Registry} {a1:ByteArray} {r:(List Int)×(List ByteArray)×Int} (h:irr_Expand a0 a1=some r):CallsOK True Tryz.prog 16 [AV.d (Registry.toD a0),AV.d (D.s a1)] [] (.tup [.d (D.l 1 D.i r.1),.d (D.l 1 D.s r.2.1),.d (D.i r.2.2)]) []:=by
 refine ok Tryz.f16 (by kernel_rfl) (by kernel_rfl) ⟨rfl,?_⟩;unfold irr_Expand at h;obtain ⟨v1,g2,h⟩:=bind_inv h;refine ⟨_,_,some [],irr_Valid_ok g2,?_⟩;(conv=>whnf);refine .go ?_;revert h;refine sel_if ?_ ?_<;>intro h
 ·cases h;exact ⟨rfl,rfl⟩
 ·refine ⟨a0.Sets.length,List.length_map _,?_⟩;revert h;refine cut_join (fun v3=>⟨X::AV.d (D.s a1)::dd 5 (AV.mp 23::dd 90 ([])),nn 23 (some (OB.map 9 43 (entsD D.s Set.toD v3))::nn 74 ([]))⟩) ?_ ?_
  ·intro k4 h;revert h;refine loop_for 25 3 Set.toD rfl (fun i5 v6=>⟨X::AV.d (D.s a1)::dd 5 (AV.mp 23::dd 17 (AV.d (D.l 3 Set.toD a0.Sets)::AV.d (D.i (a0.Sets.length:Int))::AV.d (D.i (i5:Int))::dd 70 ([]))),nn 23 (some (OB.map 9 43 (entsD D.s Set.toD v6))::nn 74 ([]))⟩) ?_ ?_ ?_
   ·exact wk
   ·rintro v6 K7 h;(conv=>whnf);refine .go ?_;(conv=>whnf);refine sel_f lt_f ?_;exact join_end wk h
   ·rintro next8 i5 x9 v6 K7 hii5 hxi5 hwi5 h hK10;(conv=>whnf);refine .go ?_;(conv=>whnf);refine sel_t (lt_t hii5) ?_;(conv=>whnf);refine .go ?_;refine ⟨idx_b (f:=Set.toD) hii5,Set.toD x9,hxi5,rfl,?_⟩;refine ⟨_,mapSet_ok (ek:=D.s) (ev:=Set.toD) (l:=v6) (k:=x9.Name) (v:=x9) keyEq_s,?_⟩;refine ⟨_,hwi5,?_⟩;exact hK10 _ _ wk h
  ·rintro v3 h;obtain ⟨v11,g12,h⟩:=bind_inv h;obtain ⟨v13,g14,h⟩:=bind_inv h;refine ⟨_,mapGet_ok (ek:=D.s) (ev:=Set.toD) (l:=v3) (k:=a1) keyEq_s,Set.toD v11,mget_dg (z:=(⟨ByteArray.empty,[],[]⟩:Set)) rfl g12,v13,mget_sg g14,?_⟩;(conv=>whnf);refine .go ?_;revert h;refine sel_if ?_ ?_<;>intro h
   ·(conv=>whnf);refine .inl ?_;refine ⟨rfl,?_⟩;(conv=>whnf);refine .inl ?_;refine ⟨rfl,?_⟩;cases h;exact ⟨rfl,rfl⟩
   ·revert h;refine cut_join (fun (v15,v16)=>⟨dd 13 (AV.mp 45::AV.mp 46::dd 83 ([])),nn 45 (some (OB.map 3 4 (entsD D.i D.b v15))::some (OB.map 9 4 (entsD D.s D.b v16))::nn 51 ([]))⟩) ?_ ?_
    ·intro k17 h;revert h;refine loop_while (fun (v18,v19,v20,v21)=>⟨dd 7 (AV.mp 23::dd 4 (AV.mp 44::AV.mp 45::AV.mp 46::AV.own 48 (List.map D.s v21).length::dd 82 ([]))),nn 23 (some (OB.map 9 43 (entsD D.s Set.toD v3))::nn 20 (some (OB.map 9 4 (entsD D.s D.b v18))::some (OB.map 3 4 (entsD D.i D.b v19))::some (OB.map 9 4 (entsD D.s D.b v20))::N::some (OB.row 9 1 (List.map D.s v21) false)::nn 49 ([])))⟩) ?_ ?_
     ·exact wk
     rintro next22 ⟨v18,v19,v20,v21⟩ K23 h hK24;refine ⟨v21.length,by first | exact List.length_map _ | rfl | (simp only [List.length_map];omega),?_⟩;(conv=>whnf);refine .go ?_;revert h;refine sel_if ?_ ?_<;>intro h
     ·revert h;refine cut_join (fun (v25,v26,v27,v28)=>⟨dd 7 (AV.mp 23::dd 4 (AV.mp 44::AV.mp 45::AV.mp 46::AV.own 48 (List.map D.s v28).length::dd 82 ([]))),nn 23 (some (OB.map 9 43 (entsD D.s Set.toD v3))::nn 20 (some (OB.map 9 4 (entsD D.s D.b v25))::some (OB.map 3 4 (entsD D.i D.b v26))::some (OB.map 9 4 (entsD D.s D.b v27))::N::some (OB.row 9 1 (List.map D.s v28) false)::nn 49 ([])))⟩) ?_ ?_
      ·intro k29 h;obtain ⟨v30,g31,h⟩:=bind_inv h;refine ⟨rfl,geti_b (f:=D.s) g31,?_⟩;refine ⟨rfl,D.s v30,(geti_d (f:=D.s) g31),?_⟩;obtain ⟨v32,g33,h⟩:=bind_inv h;obtain ⟨v34,g35,h⟩:=bind_inv h;refine ⟨_,mapGet_ok (ek:=D.s) (ev:=Set.toD) (l:=v3) (k:=v30) keyEq_s,Set.toD v32,mget_dg (z:=(⟨ByteArray.empty,[],[]⟩:Set)) rfl g33,v34,mget_sg g35,?_⟩;revert h;refine cut_join (fun (v36,v37,v38,v39)=>⟨dd 7 (AV.mp 23::dd 4 (AV.mp 44::AV.mp 45::AV.mp 46::AV.own 48 (List.map D.s v39).length::dd 82 ([]))),nn 23 (some (OB.map 9 43 (entsD D.s Set.toD v3))::nn 20 (some (OB.map 9 4 (entsD D.s D.b v36))::some (OB.map 3 4 (entsD D.i D.b v37))::some (OB.map 9 4 (entsD D.s D.b v38))::N::some (OB.row 9 1 (List.map D.s v39) false)::nn 49 ([])))⟩) ?_ ?_
       ·intro k40 h;revert h;refine cut_join (fun (v41,v42,v43,v44)=>⟨dd 7 (AV.mp 23::dd 4 (AV.mp 44::AV.mp 45::AV.mp 46::AV.own 48 (List.map D.s v44).length::dd 82 ([]))),nn 23 (some (OB.map 9 43 (entsD D.s Set.toD v3))::nn 20 (some (OB.map 9 4 (entsD D.s D.b v41))::some (OB.map 3 4 (entsD D.i D.b v42))::some (OB.map 9 4 (entsD D.s D.b v43))::N::some (OB.row 9 1 (List.map D.s v44) false)::nn 49 ([])))⟩) ?_ ?_
        ·intro k45 h;revert h;refine sel_if ?_ ?_<;>intro h
         ·obtain ⟨v46,g47,h⟩:=bind_inv h;refine ⟨rfl,geti_b (f:=D.s) g47,?_⟩;refine ⟨rfl,D.s v46,(geti_d (f:=D.s) g47),?_⟩;refine ⟨_,mapSet_ok (ek:=D.s) (ev:=D.b) (l:=v20) (k:=v46) (v:=true) keyEq_s,?_⟩;exact join_end wk h
         ·obtain ⟨v48,g49,h⟩:=bind_inv h;refine ⟨_,mapGet_ok (ek:=D.s) (ev:=D.b) (l:=v18) (k:=v32.Name) keyEq_s,D.b v48,mget_dg (z:=false) rfl g49,_,rfl,?_⟩;revert h;refine cut_join (fun (v50,v51,v52)=>⟨dd 7 (AV.mp 23::dd 4 (AV.mp 44::AV.mp 45::AV.mp 46::AV.own 48 (List.map D.s v52).length::dd 82 ([]))),nn 23 (some (OB.map 9 43 (entsD D.s Set.toD v3))::nn 20 (some (OB.map 9 4 (entsD D.s D.b v50))::some (OB.map 3 4 (entsD D.i D.b v51))::some (OB.map 9 4 (entsD D.s D.b v20))::N::some (OB.row 9 1 (List.map D.s v52) false)::nn 49 ([])))⟩) ?_ ?_
          ·intro k53 h;revert h;refine sel_if ?_ ?_<;>intro h
           ·refine ⟨_,mapSet_ok (ek:=D.s) (ev:=D.b) (l:=v18) (k:=v32.Name) (v:=true) keyEq_s,?_⟩;refine ⟨v32.ASNs.length,List.length_map _,?_⟩;revert h;refine cut_join (fun v54=>⟨dd 7 (AV.mp 23::dd 4 (AV.mp 44::AV.mp 45::AV.mp 46::AV.own 48 (List.map D.s v21).length::AV.ref 16 0::dd 81 ([]))),nn 16 (some (OB.box (Set.av v32))::nn 6 (some (OB.map 9 43 (entsD D.s Set.toD v3))::nn 20 (some (OB.map 9 4 (entsD D.s D.b (mset v18 v32.Name true)))::some (OB.map 3 4 (entsD D.i D.b v54))::some (OB.map 9 4 (entsD D.s D.b v20))::N::some (OB.row 9 1 (List.map D.s v21) false)::nn 49 ([]))))⟩) ?_ ?_
            ·intro k55 h;revert h;refine loop_for 79 1 D.i rfl (fun i56 v57=>⟨dd 7 (AV.mp 23::dd 4 (AV.mp 44::AV.mp 45::AV.mp 46::AV.own 48 (List.map D.s v21).length::AV.ref 16 0::dd 62 (AV.d (D.l 1 D.i v32.ASNs)::AV.d (D.i (v32.ASNs.length:Int))::AV.d (D.i (i56:Int))::dd 16 ([])))),nn 16 (some (OB.box (Set.av v32))::nn 6 (some (OB.map 9 43 (entsD D.s Set.toD v3))::nn 20 (some (OB.map 9 4 (entsD D.s D.b (mset v18 v32.Name true)))::some (OB.map 3 4 (entsD D.i D.b v57))::some (OB.map 9 4 (entsD D.s D.b v20))::N::some (OB.row 9 1 (List.map D.s v21) false)::nn 49 ([]))))⟩) ?_ ?_ ?_
             ·exact wk
             ·rintro v57 K58 h;(conv=>whnf);refine .go ?_;(conv=>whnf);refine sel_f lt_f ?_;exact join_end wk h
             ·rintro next59 i56 x60 v57 K58 hii56 hxi56 hwi56 h hK61;(conv=>whnf);refine .go ?_;(conv=>whnf);refine sel_t (lt_t hii56) ?_;(conv=>whnf);refine .go ?_;refine ⟨idx_b (f:=D.i) hii56,D.i x60,hxi56,rfl,?_⟩;refine ⟨_,mapSet_ok (ek:=D.i) (ev:=D.b) (l:=v57) (k:=x60) (v:=true) keyEq_i,?_⟩;refine ⟨_,hwi56,?_⟩;exact hK61 _ _ wk h
            ·rintro v54 h;obtain ⟨v62,g63,h⟩:=bind_inv h;refine ⟨rfl,apnd_b (f:=D.s) (g:=D.s) g63,_,apnd_z (f:=D.s) g63,?_⟩;exact join_end wk h
           ·exact join_end wk h
          ·rintro ⟨v50,v51,v52⟩ h;exact join_end wk h
        ·rintro ⟨v41,v42,v43,v44⟩ h;exact join_end wk h
       ·rintro ⟨v36,v37,v38,v39⟩ h;exact join_end wk h
      ·rintro ⟨v25,v26,v27,v28⟩ h;(conv=>whnf);refine .inr (.inr ?_);obtain ⟨v64,g65,h⟩:=bind_inv h;refine ⟨move_b0 (f:=D.s) g65,rfl,_,part_z0 (f:=D.s) g65,?_⟩;exact hK24 _ _ (.swap 53 48 rfl rfl rfl wk) h
     ·exact join_end wk h
    ·rintro ⟨v15,v16⟩ h;refine ⟨_,_,some [],keys42_ok,?_⟩;obtain ⟨v66,g67,h⟩:=bind_inv h;refine ⟨_,_,some [94],sorted41_ok g67,?_⟩;refine ⟨_,_,some [],keys44_ok,?_⟩;obtain ⟨v68,g69,h⟩:=bind_inv h;refine ⟨_,_,some [97],sorted43_ok g69,?_⟩;(conv=>whnf);refine .inl ?_;refine ⟨rfl,?_⟩;(conv=>whnf);refine .inl ?_;refine ⟨rfl,?_⟩;cases h;exact ⟨rfl,rfl⟩
theorem law20_awake_ok  {r:Bool} (h:law20_awake=some r):CallsOK True Tryz.prog 10 [] [] (.d (D.b r)) []:=by
 refine ok Tryz.f10 (by kernel_rfl) (by kernel_rfl) ⟨rfl,?_⟩;unfold law20_awake at h;refine ⟨rfl,?_⟩;refine ⟨rfl,?_⟩;refine ⟨rfl,?_⟩;refine ⟨rfl,?_⟩;refine ⟨rfl,?_⟩;obtain ⟨⟨v1,v2,v3⟩,g4,h⟩:=bind_inv h;refine ⟨_,_,some [],irr_Expand_ok g4,?_⟩;revert h;refine cut_join (fun v5=>⟨AV.d (D.b v5)::dd 42 ([]),nn 43 ([])⟩) ?_ ?_
 ·intro k6 h;revert h;refine sel_if ?_ ?_<;>intro h
  ·refine ⟨v1.length,List.length_map _,?_⟩;revert h;refine sel_if ?_ ?_<;>intro h
   ·obtain ⟨v7,g8,h⟩:=bind_inv h;refine ⟨geti_b (f:=D.i) g8,D.i v7,geti_d (f:=D.i) g8,rfl,?_⟩;revert h;refine sel_if ?_ ?_<;>intro h
    ·refine ⟨v2.length,List.length_map _,?_⟩;revert h;refine sel_if ?_ ?_<;>intro h
     ·obtain ⟨v9,g10,h⟩:=bind_inv h;refine ⟨geti_b (f:=D.s) g10,D.s v9,geti_d (f:=D.s) g10,rfl,?_⟩;exact join_end wk h
     ·exact join_end wk h
    ·exact join_end wk h
   ·exact join_end wk h
  ·exact join_end wk h
 ·rintro v5 h;cases h;exact ⟨rfl,rfl⟩
theorem make_New_ok {wl:Prop} {a0:List Int} {r:Deck} (h:make_New a0=some r):CallsOK wl Tryz.prog 11 [AV.d (D.l 1 D.i a0)] [] (.ref 0 0) [.box (Deck.av r)]:=by
 refine ok Tryz.f11 (by kernel_rfl) (by kernel_rfl) ⟨rfl,?_⟩;unfold make_New at h;cases h;exact ⟨rfl,rfl⟩
theorem make_Mod_ok {wl:Prop} {a0:Int} {a1:Int} {r:Int} (h:make_Mod a0 a1=some r):CallsOK wl Tryz.prog 20 [AV.d (D.i a0),AV.d (D.i a1)] [] (.d (D.i r)) []:=by
 refine ok Tryz.f20 (by kernel_rfl) (by kernel_rfl) ⟨rfl,?_⟩;unfold make_Mod at h;obtain ⟨_,g1,h⟩:=bind_inv h;refine ⟨chk_inv g1,_,rfl,?_⟩;revert h;refine cut_join (fun v2=>⟨dd 5 (AV.d (D.i v2)::dd 9 ([])),nn 15 ([])⟩) ?_ ?_
 ·intro k3 h;revert h;refine sel_if ?_ ?_<;>intro h
  ·refine ⟨_,rfl,?_⟩;exact join_end wk h
  ·exact join_end wk h
 ·rintro v2 h;cases h;exact ⟨rfl,rfl⟩
theorem make_Deck_Next_ok {wl:Prop} {a0:Deck} {a1:Int} {r:Int×Deck} (h:make_Deck_Next a0 a1=some r):CallsOK wl Tryz.prog 26 [.ref 0 0,AV.d (D.i a1)] [.box (Deck.av a0)] (.d (D.i r.1)) [.box (Deck.av r.2)]:=by
 refine ok Tryz.f26 (by kernel_rfl) (by kernel_rfl) ⟨rfl,?_⟩;unfold make_Deck_Next at h;(conv=>whnf);refine dOB (by kernel_rfl) ?_;refine ⟨a0.L.length,List.length_map _,?_⟩;(conv=>whnf);refine cOB (by kernel_rfl) ?_;(conv=>whnf);refine .go ?_;revert h;refine sel_if ?_ ?_<;>intro h
 ·cases h;exact ⟨rfl,rfl⟩
 ·refine ⟨_,rfl,?_⟩;(conv=>whnf);refine dOB (by kernel_rfl) ?_;refine ⟨_,rfl,?_⟩;obtain ⟨v1,g2,h⟩:=bind_inv h;refine ⟨geti_b (f:=D.i) g2,D.i v1,geti_d (f:=D.i) g2,rfl,?_⟩;obtain ⟨v3,g4,h⟩:=bind_inv h;refine ⟨_,_,make_Mod_ok g4,.inl rfl,?_⟩;(conv=>whnf);refine cOB (by kernel_rfl) ?_;cases h;exact ⟨rfl,rfl⟩
theorem ref01_Valid_ok {wl:Prop} {a0:Addr} {r:Bool} (h:ref01_Valid a0=some r):CallsOK wl Tryz.prog 53 [AV.d (Addr.toD a0)] [] (.d (D.b r)) []:=by
 refine ok Tryz.f53 (by kernel_rfl) (by kernel_rfl) ⟨rfl,?_⟩;unfold ref01_Valid at h;revert h;refine cut_join (fun v1=>⟨X::X::AV.d (D.b v1)::dd 12 ([]),nn 15 ([])⟩) ?_ ?_
 ·intro k2 h;revert h;refine sel_if ?_ ?_<;>intro h
  ·exact join_end wk h
  ·revert h;refine sel_if ?_ ?_<;>intro h
   ·exact join_end wk h
   ·exact join_end wk h
 ·rintro v1 h;cases h;exact ⟨rfl,rfl⟩
theorem ref02_width_ok {wl:Prop} {a0:Addr} {r:Int} (h:ref02_width a0=some r):CallsOK wl Tryz.prog 54 [AV.d (Addr.toD a0)] [] (.d (D.i r)) []:=by
 refine ok Tryz.f54 (by kernel_rfl) (by kernel_rfl) ⟨rfl,?_⟩;unfold ref02_width at h;(conv=>whnf);refine .go ?_;revert h;refine sel_if ?_ ?_<;>intro h
 ·cases h;exact ⟨rfl,rfl⟩
 ·cases h;exact ⟨rfl,rfl⟩
end Go.AX.Q20
end
section
namespace Go.AX.Q20
open Go Go.AX Go.Proofs
set_option maxRecDepth 100000
set_option maxHeartbeats 4000000
set_option linter.unusedVariables false
theorem ref01_Bytes_ok {wl:Prop} {a0:Addr} {r:(List UInt8)} (h:ref01_Bytes a0=some r):CallsOK wl Tryz.prog 55 [AV.d (Addr.toD a0)] [] (AV.own 0 (List.map D.u8 r).length) [.row 5 1 (List.map D.u8 r) false]:=by
 refine ok Tryz.f55 (by kernel_rfl) (by kernel_rfl) ⟨rfl,?_⟩;unfold ref01_Bytes at h;obtain ⟨v1,g2,h⟩:=bind_inv h;refine ⟨_,_,some [],ref01_Valid_ok g2,?_⟩;(conv=>whnf);refine .go ?_;revert h;refine sel_if ?_ ?_<;>intro h
 ·(conv=>whnf);refine .inr ⟨Nat.le_of_ble_eq_true rfl,5,?_⟩;cases h;exact ⟨rfl,rfl⟩
 ·revert h;refine cut_join (fun v3=>⟨X::AV.ref 1 0::X::AV.d (D.i v3)::dd 31 ([]),N::some (OB.box (Addr.av a0))::nn 33 ([])⟩) ?_ ?_
  ·intro k4 h;revert h;refine sel_if ?_ ?_<;>intro h
   ·exact join_end wk h
   ·exact join_end wk h
  ·rintro v3 h;refine ⟨_,rfl,?_⟩;revert h;refine cut_join (fun v5=>⟨dd 4 (AV.own 4 (List.map D.u8 v5).length::dd 30 ([])),nn 4 (some (OB.row 5 1 (List.map D.u8 v5) false)::nn 30 ([]))⟩) ?_ ?_
   ·intro k6 h;revert h;refine loop_while (fun (v7,v8)=>⟨X::AV.ref 1 0::X::X::AV.own 4 (List.map D.u8 v8).length::AV.d (D.i v7)::dd 29 ([]),N::some (OB.box (Addr.av a0))::N::N::some (OB.row 5 1 (List.map D.u8 v8) false)::nn 30 ([])⟩) ?_ ?_
    ·exact wk
    rintro next9 ⟨v7,v8⟩ K10 h hK11;(conv=>whnf);refine .go ?_;revert h;refine sel_if ?_ ?_<;>intro h
    ·(conv=>whnf);refine .go ?_;revert h;refine cut_join (fun v12=>⟨X::AV.ref 1 0::X::X::AV.own 4 (List.map D.u8 v8).length::AV.d (D.i v7)::AV.d (D.u64 v12)::dd 28 ([]),N::some (OB.box (Addr.av a0))::N::N::some (OB.row 5 1 (List.map D.u8 v8) false)::nn 30 ([])⟩) ?_ ?_
     ·intro k13 h;revert h;refine sel_if ?_ ?_<;>intro h
      ·exact join_end wk h
      ·exact join_end wk h
     ·rintro v12 h;refine ⟨by decide,_,rfl,?_⟩;refine ⟨_,u64_wrap _,?_⟩;refine ⟨_,u64_wrap _,?_⟩;refine ⟨Int.natCast_nonneg _,_,u64_shr v12 _,?_⟩;refine ⟨_,u8_wrap _,?_⟩;refine ⟨rfl,?_⟩;obtain ⟨v14,g15,h⟩:=bind_inv h;refine ⟨rfl,apnd_b (f:=D.u8) (g:=D.u8) g15,_,apnd_z (f:=D.u8) g15,?_⟩;refine ⟨_,rfl,?_⟩;exact hK11 _ _ wk h
    ·exact join_end wk h
   ·rintro v5 h;(conv=>whnf);refine .inl ?_;(conv=>whnf);refine .inr ?_;cases h;exact ⟨rfl,rfl⟩
theorem ref01_FromBytes_ok {wl:Prop} {a0:List UInt8} {r:Addr×Int} (h:ref01_FromBytes a0=some r):CallsOK wl Tryz.prog 56 [AV.d (D.l 1 D.u8 a0)] [] (.tup [.d (Addr.toD r.1),.d (D.i r.2)]) []:=by
 refine ok Tryz.f56 (by kernel_rfl) (by kernel_rfl) ⟨rfl,?_⟩;unfold ref01_FromBytes at h;revert h;refine cut_join (fun v1=>⟨AV.d (D.l 1 D.u8 a0)::X::AV.ref 2 0::dd 11 (AV.d (D.b v1)::dd 28 ([])),N::N::some (OB.box Addr.zv)::nn 40 ([])⟩) ?_ ?_
 ·intro k2 h;refine ⟨a0.length,List.length_map _,?_⟩;revert h;refine sel_if ?_ ?_<;>intro h
  ·refine ⟨a0.length,List.length_map _,?_⟩;exact join_end wk h
  ·exact join_end wk h
 ·rintro v1 h;(conv=>whnf);refine .go ?_;revert h;refine sel_if ?_ ?_<;>intro h
  ·cases h;exact ⟨rfl,rfl⟩
  ·refine ⟨a0.length,List.length_map _,?_⟩;refine ⟨a0.length,List.length_map _,?_⟩;revert h;refine cut_join (fun v3=>⟨X::X::AV.ref 2 0::X::AV.ref 4 0::dd 38 ([]),N::N::some (OB.box Addr.zv)::N::some (OB.box (Addr.av v3))::nn 38 ([])⟩) ?_ ?_
   ·intro k4 h;revert h;refine loop_for 20 1 D.u8 rfl (fun i5 v6=>⟨X::X::AV.ref 2 0::X::AV.ref 4 0::dd 15 (AV.d (D.l 1 D.u8 a0)::AV.d (D.i (a0.length:Int))::AV.d (D.i (i5:Int))::dd 20 ([])),N::N::some (OB.box Addr.zv)::N::some (OB.box (Addr.av v6))::nn 38 ([])⟩) ?_ ?_ ?_
    ·exact wk
    ·rintro v6 K7 h;(conv=>whnf);refine .go ?_;(conv=>whnf);refine sel_f lt_f ?_;exact join_end wk h
    ·rintro next8 i5 x9 v6 K7 hii5 hxi5 hwi5 h hK10;(conv=>whnf);refine .go ?_;(conv=>whnf);refine sel_t (lt_t hii5) ?_;(conv=>whnf);refine .go ?_;refine ⟨idx_b (f:=D.u8) hii5,D.u8 x9,hxi5,rfl,?_⟩;refine ⟨by decide,_,u64_wrap _,?_⟩;refine ⟨by decide,_,u64_shr v6.Lo _,?_⟩;refine ⟨_,u64_wrap _,?_⟩;refine ⟨by decide,_,u64_wrap _,?_⟩;refine ⟨_,u64_wrap _,?_⟩;refine ⟨_,u64_wrap _,?_⟩;refine ⟨_,hwi5,?_⟩;exact hK10 _ _ wk h
   ·rintro v3 h;cases h;exact ⟨rfl,rfl⟩
theorem ref02_Make_ok {wl:Prop} {a0:Addr} {a1:Int} {r:Prefix×Int} (h:ref02_Make a0 a1=some r):CallsOK wl Tryz.prog 23 [AV.d (Addr.toD a0),AV.d (D.i a1)] [] (.tup [.d (Prefix.toD r.1),.d (D.i r.2)]) []:=by
 refine ok Tryz.f23 (by kernel_rfl) (by kernel_rfl) ⟨rfl,?_⟩;unfold ref02_Make at h;(conv=>whnf);refine .go ?_;obtain ⟨v1,g2,h⟩:=bind_inv h;refine ⟨_,_,some [],ref01_Valid_ok g2,?_⟩;(conv=>whnf);refine .go ?_;revert h;refine sel_if ?_ ?_<;>intro h
 ·cases h;exact ⟨rfl,rfl⟩
 ·revert h;refine cut_join (fun v3=>⟨X::AV.d (D.i a1)::AV.ref 2 0::X::AV.ref 4 0::dd 10 (AV.d (D.b v3)::dd 38 ([])),N::N::some (OB.box (Addr.av a0))::N::some (OB.box Prefix.zv)::nn 49 ([])⟩) ?_ ?_
  ·intro k4 h;revert h;refine sel_if ?_ ?_<;>intro h
   ·exact join_end wk h
   ·obtain ⟨v5,g6,h⟩:=bind_inv h;refine ⟨_,_,some [],ref02_width_ok g6,?_⟩;exact join_end wk h
  ·rintro v3 h;(conv=>whnf);refine .go ?_;revert h;refine sel_if ?_ ?_<;>intro h
   ·cases h;exact ⟨rfl,rfl⟩
   ·obtain ⟨v7,g8,h⟩:=bind_inv h;refine ⟨_,_,some [26],ref01_Bytes_ok g8,?_⟩;revert h;refine cut_join (fun v9=>⟨X::AV.d (D.i a1)::X::X::AV.ref 4 0::X::AV.own 26 (List.map D.u8 v9).length::dd 47 ([]),nn 4 (some (OB.box Prefix.zv)::nn 21 (some (OB.row 5 1 (List.map D.u8 v9) false)::nn 27 ([])))⟩) ?_ ?_
    ·intro k10 h;revert h;refine loop_while (fun (v11,v12)=>⟨X::AV.d (D.i a1)::X::X::AV.ref 4 0::X::AV.own 26 (List.map D.u8 v12).length::AV.d (D.i v11)::dd 46 ([]),nn 4 (some (OB.box Prefix.zv)::nn 21 (some (OB.row 5 1 (List.map D.u8 v12) false)::nn 27 ([])))⟩) ?_ ?_
     ·exact wk
     rintro next13 ⟨v11,v12⟩ K14 h hK15;refine ⟨v12.length,by first | exact List.length_map _ | rfl | (simp only [List.length_map];omega),?_⟩;refine ⟨_,rfl,?_⟩;(conv=>whnf);refine .go ?_;revert h;refine sel_if ?_ ?_<;>intro h
     ·(conv=>whnf);refine .go ?_;refine ⟨by decide,_,rfl,?_⟩;obtain ⟨v16,g17,h⟩:=bind_inv h;refine ⟨rfl,geti_b (f:=D.u8) g17,?_⟩;refine ⟨rfl,D.u8 v16,(geti_d (f:=D.u8) g17),?_⟩;refine ⟨by decide,_,rfl,?_⟩;refine ⟨_,u64_wrap _,?_⟩;refine ⟨Int.natCast_nonneg _,_,u8_shr (128:UInt8) _,?_⟩;refine ⟨_,u8_wrap _,?_⟩;obtain ⟨v18,g19,h⟩:=bind_inv h;refine ⟨rfl,geti_b (f:=D.u8) g19,?_⟩;obtain ⟨v20,g21,h⟩:=bind_inv h;have g21l:=seti_len g21;refine ⟨rfl,rfl,D.u8 v18,(geti_d (f:=D.u8) g19),?_⟩;refine ⟨_,seti_z (f:=D.u8) g21,?_⟩;refine ⟨_,rfl,?_⟩;exact hK15 _ _ wk h
     ·exact join_end wk h
    ·rintro v9 h;refine ⟨rfl,?_⟩;obtain ⟨⟨v22,v23⟩,g24,h⟩:=bind_inv h;refine ⟨_,_,none,ref01_FromBytes_ok g24,?_⟩;cases h;exact ⟨rfl,rfl⟩
theorem make_Deck_Addr_ok {wl:Prop} {a0:Deck} {r:Addr×Deck} (h:make_Deck_Addr a0=some r):CallsOK wl Tryz.prog 52 [.ref 0 0] [.box (Deck.av a0)] (.d (Addr.toD r.1)) [.box (Deck.av r.2)]:=by
 refine ok Tryz.f52 (by kernel_rfl) (by kernel_rfl) ⟨rfl,?_⟩;unfold make_Deck_Addr at h;obtain ⟨⟨v1,v2⟩,g3,h⟩:=bind_inv h;refine ⟨_,_,some [],make_Deck_Next_ok g3,?_⟩;(conv=>whnf);refine .go ?_;(conv=>whnf);refine .go ?_;revert h;refine sel_if ?_ ?_<;>intro h
 ·obtain ⟨⟨v4,v5⟩,g6,h⟩:=bind_inv h;refine ⟨_,_,some [],make_Deck_Next_ok g6,?_⟩;refine ⟨by decide,_,rfl,?_⟩;refine ⟨_,rfl,?_⟩;obtain ⟨⟨v7,v8⟩,g9,h⟩:=bind_inv h;refine ⟨_,_,some [],make_Deck_Next_ok g9,?_⟩;refine ⟨_,rfl,?_⟩;refine ⟨_,u64_wrap _,?_⟩;cases h;exact ⟨rfl,rfl⟩
 ·(conv=>whnf);refine .go ?_;revert h;refine sel_if ?_ ?_<;>intro h
  ·obtain ⟨⟨v10,v11⟩,g12,h⟩:=bind_inv h;refine ⟨_,_,some [],make_Deck_Next_ok g12,?_⟩;refine ⟨_,u64_wrap _,?_⟩;refine ⟨_,u64_wrap _,?_⟩;obtain ⟨⟨v13,v14⟩,g15,h⟩:=bind_inv h;refine ⟨_,_,some [],make_Deck_Next_ok g15,?_⟩;refine ⟨_,u64_wrap _,?_⟩;cases h;exact ⟨rfl,rfl⟩
  ·(conv=>whnf);refine .go ?_;revert h;refine sel_if ?_ ?_<;>intro h
   ·obtain ⟨⟨v16,v17⟩,g18,h⟩:=bind_inv h;refine ⟨_,_,some [],make_Deck_Next_ok g18,?_⟩;obtain ⟨v19,g20,h⟩:=bind_inv h;refine ⟨rfl,geti_b (f:=D.u64) g20,?_⟩;refine ⟨rfl,D.u64 v19,(geti_d (f:=D.u64) g20),?_⟩;cases h;exact ⟨rfl,rfl⟩
   ·(conv=>whnf);refine .go ?_;revert h;refine sel_if ?_ ?_<;>intro h
    ·(conv=>whnf);refine dOB (by kernel_rfl) ?_;obtain ⟨⟨v21,v22⟩,g23,h⟩:=bind_inv h;refine ⟨_,_,make_Deck_Next_ok g23,.inl rfl,?_⟩;obtain ⟨v24,g25,h⟩:=bind_inv h;refine ⟨rfl,geti_b (f:=D.u64) g25,?_⟩;refine ⟨rfl,D.u64 v24,(geti_d (f:=D.u64) g25),?_⟩;obtain ⟨⟨v26,v27⟩,g28,h⟩:=bind_inv h;refine ⟨_,_,make_Deck_Next_ok g28,.inl rfl,?_⟩;obtain ⟨v29,g30,h⟩:=bind_inv h;refine ⟨rfl,geti_b (f:=D.u64) g30,?_⟩;refine ⟨rfl,D.u64 v29,(geti_d (f:=D.u64) g30),?_⟩;(conv=>whnf);refine cOB (by kernel_rfl) ?_;cases h;exact ⟨rfl,rfl⟩
    ·(conv=>whnf);refine .go ?_;revert h;refine sel_if ?_ ?_<;>intro h
     ·obtain ⟨⟨v31,v32⟩,g33,h⟩:=bind_inv h;refine ⟨_,_,some [],make_Deck_Next_ok g33,?_⟩;refine ⟨_,u64_wrap _,?_⟩;obtain ⟨⟨v34,v35⟩,g36,h⟩:=bind_inv h;refine ⟨_,_,some [],make_Deck_Next_ok g36,?_⟩;refine ⟨_,rfl,?_⟩;refine ⟨_,u64_wrap _,?_⟩;refine ⟨Int.natCast_nonneg _,_,u64_wrap _,?_⟩;obtain ⟨⟨v37,v38⟩,g39,h⟩:=bind_inv h;refine ⟨_,_,some [],make_Deck_Next_ok g39,?_⟩;refine ⟨_,u64_wrap _,?_⟩;obtain ⟨⟨v40,v41⟩,g42,h⟩:=bind_inv h;refine ⟨_,_,some [],make_Deck_Next_ok g42,?_⟩;refine ⟨_,rfl,?_⟩;refine ⟨_,u64_wrap _,?_⟩;refine ⟨Int.natCast_nonneg _,_,u64_wrap _,?_⟩;cases h;exact ⟨rfl,rfl⟩
     ·obtain ⟨⟨v43,v44⟩,g45,h⟩:=bind_inv h;refine ⟨_,_,some [],make_Deck_Next_ok g45,?_⟩;refine ⟨_,u64_wrap _,?_⟩;cases h;exact ⟨rfl,rfl⟩
theorem make_Deck_Prefix_ok {wl:Prop} {a0:Deck} {r:Prefix×Deck} (h:make_Deck_Prefix a0=some r):CallsOK wl Tryz.prog 22 [.ref 0 0] [.box (Deck.av a0)] (.d (Prefix.toD r.1)) [.box (Deck.av r.2)]:=by
 refine ok Tryz.f22 (by kernel_rfl) (by kernel_rfl) ⟨rfl,?_⟩;unfold make_Deck_Prefix at h;obtain ⟨⟨v1,v2⟩,g3,h⟩:=bind_inv h;refine ⟨_,_,some [],make_Deck_Addr_ok g3,?_⟩;revert h;refine cut_join (fun v4=>⟨AV.ref 0 0::X::AV.ref 3 0::AV.ref 4 0::AV.d (D.i v4)::dd 34 ([]),some (OB.box (Deck.av v2))::N::N::some (OB.box Prefix.zv)::some (OB.box (Addr.av v1))::nn 35 ([])⟩) ?_ ?_
 ·intro k5 h;revert h;refine sel_if ?_ ?_<;>intro h
  ·exact join_end wk h
  ·exact join_end wk h
 ·rintro v4 h;obtain ⟨⟨v6,v7⟩,g8,h⟩:=bind_inv h;refine ⟨_,_,some [],make_Deck_Next_ok g8,?_⟩;(conv=>whnf);refine .go ?_;revert h;refine cut_join (fun (v9,v10)=>⟨X::X::AV.ref 3 0::AV.ref 4 0::AV.d (D.i v9)::dd 34 ([]),some (OB.box (Deck.av v10))::N::N::some (OB.box Prefix.zv)::some (OB.box (Addr.av v1))::nn 35 ([])⟩) ?_ ?_
  ·intro k11 h;revert h;refine sel_if ?_ ?_<;>intro h
   ·refine ⟨_,rfl,?_⟩;obtain ⟨⟨v12,v13⟩,g14,h⟩:=bind_inv h;refine ⟨_,_,some [],make_Deck_Next_ok g14,?_⟩;exact join_end wk h
   ·revert h;refine cut_join (fun (v15,v16)=>⟨X::X::AV.ref 3 0::AV.ref 4 0::AV.d (D.i v15)::dd 34 ([]),some (OB.box (Deck.av v16))::N::N::some (OB.box Prefix.zv)::some (OB.box (Addr.av v1))::nn 35 ([])⟩) ?_ ?_
    ·intro k17 h;revert h;refine sel_if ?_ ?_<;>intro h
     ·obtain ⟨⟨v18,v19⟩,g20,h⟩:=bind_inv h;refine ⟨_,_,some [],make_Deck_Next_ok g20,?_⟩;refine ⟨_,rfl,?_⟩;exact join_end wk h
     ·revert h;refine cut_join (fun (v21,v22)=>⟨X::X::AV.ref 3 0::AV.ref 4 0::AV.d (D.i v21)::dd 34 ([]),some (OB.box (Deck.av v22))::N::N::some (OB.box Prefix.zv)::some (OB.box (Addr.av v1))::nn 35 ([])⟩) ?_ ?_
      ·intro k23 h;revert h;refine sel_if ?_ ?_<;>intro h
       ·obtain ⟨⟨v24,v25⟩,g26,h⟩:=bind_inv h;refine ⟨_,_,some [],make_Deck_Next_ok g26,?_⟩;obtain ⟨v27,g28,h⟩:=bind_inv h;refine ⟨rfl,geti_b (f:=D.i) g28,?_⟩;refine ⟨rfl,D.i v27,(geti_d (f:=D.i) g28),?_⟩;exact join_end wk h
       ·exact join_end wk h
      ·rintro ⟨v21,v22⟩ h;exact join_end wk h
    ·rintro ⟨v15,v16⟩ h;exact join_end wk h
  ·rintro ⟨v9,v10⟩ h;obtain ⟨⟨v29,v30⟩,g31,h⟩:=bind_inv h;refine ⟨_,_,some [],ref02_Make_ok g31,?_⟩;cases h;exact ⟨rfl,rfl⟩
theorem make_Deck_Object_ok {wl:Prop} {a0:Deck} {r:Object×Deck} (h:make_Deck_Object a0=some r):CallsOK wl Tryz.prog 34 [.ref 0 0] [.box (Deck.av a0)] (.d (Object.toD r.1)) [.box (Deck.av r.2)]:=by
 refine ok Tryz.f34 (by kernel_rfl) (by kernel_rfl) ⟨rfl,?_⟩;unfold make_Deck_Object at h;obtain ⟨⟨v1,v2⟩,g3,h⟩:=bind_inv h;refine ⟨_,_,some [],make_Deck_Prefix_ok g3,?_⟩;revert h;refine cut_join (fun v4=>⟨AV.ref 0 0::X::AV.ref 3 0::AV.ref 4 0::AV.d (D.i v4)::dd 20 ([]),some (OB.box (Deck.av v2))::N::N::some (OB.box Object.zv)::some (OB.box (Prefix.av v1))::nn 21 ([])⟩) ?_ ?_
 ·intro k5 h;revert h;refine sel_if ?_ ?_<;>intro h
  ·exact join_end wk h
  ·exact join_end wk h
 ·rintro v4 h;(conv=>whnf);refine dOB (by kernel_rfl) ?_;obtain ⟨⟨v6,v7⟩,g8,h⟩:=bind_inv h;refine ⟨_,_,make_Deck_Next_ok g8,.inl rfl,?_⟩;obtain ⟨⟨v9,v10⟩,g11,h⟩:=bind_inv h;refine ⟨_,_,make_Deck_Next_ok g11,.inl rfl,?_⟩;refine ⟨_,rfl,?_⟩;refine ⟨_,rfl,?_⟩;refine ⟨_,rfl,?_⟩;obtain ⟨⟨v12,v13⟩,g14,h⟩:=bind_inv h;refine ⟨_,_,make_Deck_Next_ok g14,.inl rfl,?_⟩;refine ⟨_,rfl,?_⟩;(conv=>whnf);refine cOB (by kernel_rfl) ?_;cases h;exact ⟨rfl,rfl⟩
theorem make_Deck_Registry_ok {wl:Prop} {a0:Deck} {r:Registry×Deck} (h:make_Deck_Registry a0=some r):CallsOK wl Tryz.prog 12 [.ref 0 0] [.box (Deck.av a0)] (.d (Registry.toD r.1)) [.box (Deck.av r.2)]:=by
 refine ok Tryz.f12 (by kernel_rfl) (by kernel_rfl) ⟨rfl,?_⟩;unfold make_Deck_Registry at h;obtain ⟨⟨v1,v2⟩,g3,h⟩:=bind_inv h;refine ⟨_,_,some [],make_Deck_Next_ok g3,?_⟩;revert h;refine cut_join (fun (v4,v5)=>⟨AV.ref 0 0::X::AV.ref 3 0::X::AV.ref 5 0::dd 67 ([]),some (OB.box (Deck.av v4))::N::N::some (OB.box Registry.zv)::N::some (OB.box [AV.own 56 (List.map Set.toD v5).length,AV.d (D.nil 6)])::nn 50 (some (OB.row 43 3 (List.map Set.toD v5) false)::nn 16 ([]))⟩) ?_ ?_
 ·intro k6 h;revert h;refine loop_while (fun (v7,v8,v9)=>⟨AV.ref 0 0::X::AV.ref 3 0::AV.own 11 (List.map D.s ([(ByteArray.mk (List.toArray (List.cons 65 (List.cons 83 (List.cons 45 (List.cons 65 List.nil)))))),(ByteArray.mk (List.toArray (List.cons 65 (List.cons 83 (List.cons 45 (List.cons 66 List.nil)))))),(ByteArray.mk (List.toArray (List.cons 65 (List.cons 83 (List.cons 45 (List.cons 67 List.nil)))))),(ByteArray.mk (List.toArray (List.cons 65 (List.cons 83 (List.cons 45 (List.cons 68 List.nil)))))),(ByteArray.mk (List.toArray (List.cons 65 (List.cons 83 (List.cons 45 (List.cons 69 List.nil))))))]:List ByteArray)).length::AV.ref 5 0::dd 7 (AV.d (D.i v1)::AV.d (D.i v7)::dd 58 ([])),some (OB.box (Deck.av v8))::N::N::some (OB.box Registry.zv)::N::some (OB.box [AV.own 56 (List.map Set.toD v9).length,AV.d (D.nil 6)])::nn 5 (some (OB.row 9 1 (List.map D.s ([(ByteArray.mk (List.toArray (List.cons 65 (List.cons 83 (List.cons 45 (List.cons 65 List.nil)))))),(ByteArray.mk (List.toArray (List.cons 65 (List.cons 83 (List.cons 45 (List.cons 66 List.nil)))))),(ByteArray.mk (List.toArray (List.cons 65 (List.cons 83 (List.cons 45 (List.cons 67 List.nil)))))),(ByteArray.mk (List.toArray (List.cons 65 (List.cons 83 (List.cons 45 (List.cons 68 List.nil)))))),(ByteArray.mk (List.toArray (List.cons 65 (List.cons 83 (List.cons 45 (List.cons 69 List.nil))))))]:List ByteArray)) false)::nn 44 (some (OB.row 43 3 (List.map Set.toD v9) false)::nn 16 ([])))⟩) ?_ ?_
  ·exact wk
  rintro next10 ⟨v7,v8,v9⟩ K11 h hK12;(conv=>whnf);refine .go ?_;revert h;refine sel_if ?_ ?_<;>intro h
  ·revert h;refine cut_join (fun (v13,v14)=>⟨AV.ref 0 0::X::AV.ref 3 0::AV.own 11 (List.map D.s ([(ByteArray.mk (List.toArray (List.cons 65 (List.cons 83 (List.cons 45 (List.cons 65 List.nil)))))),(ByteArray.mk (List.toArray (List.cons 65 (List.cons 83 (List.cons 45 (List.cons 66 List.nil)))))),(ByteArray.mk (List.toArray (List.cons 65 (List.cons 83 (List.cons 45 (List.cons 67 List.nil)))))),(ByteArray.mk (List.toArray (List.cons 65 (List.cons 83 (List.cons 45 (List.cons 68 List.nil)))))),(ByteArray.mk (List.toArray (List.cons 65 (List.cons 83 (List.cons 45 (List.cons 69 List.nil))))))]:List ByteArray)).length::AV.ref 5 0::dd 7 (AV.d (D.i v1)::AV.d (D.i v7)::dd 58 ([])),some (OB.box (Deck.av v13))::N::N::some (OB.box Registry.zv)::N::some (OB.box [AV.own 56 (List.map Set.toD v14).length,AV.d (D.nil 6)])::nn 5 (some (OB.row 9 1 (List.map D.s ([(ByteArray.mk (List.toArray (List.cons 65 (List.cons 83 (List.cons 45 (List.cons 65 List.nil)))))),(ByteArray.mk (List.toArray (List.cons 65 (List.cons 83 (List.cons 45 (List.cons 66 List.nil)))))),(ByteArray.mk (List.toArray (List.cons 65 (List.cons 83 (List.cons 45 (List.cons 67 List.nil)))))),(ByteArray.mk (List.toArray (List.cons 65 (List.cons 83 (List.cons 45 (List.cons 68 List.nil)))))),(ByteArray.mk (List.toArray (List.cons 65 (List.cons 83 (List.cons 45 (List.cons 69 List.nil))))))]:List ByteArray)) false)::nn 44 (some (OB.row 43 3 (List.map Set.toD v14) false)::nn 16 ([])))⟩) ?_ ?_
   ·intro k15 h;obtain ⟨v16,g17,h⟩:=bind_inv h;refine ⟨rfl,geti_b (f:=D.s) g17,?_⟩;refine ⟨rfl,D.s v16,(geti_d (f:=D.s) g17),?_⟩;obtain ⟨⟨v18,v19⟩,g20,h⟩:=bind_inv h;refine ⟨_,_,some [],make_Deck_Next_ok g20,?_⟩;revert h;refine cut_join (fun (v21,v22)=>⟨AV.ref 0 0::X::AV.ref 3 0::AV.own 11 (List.map D.s ([(ByteArray.mk (List.toArray (List.cons 65 (List.cons 83 (List.cons 45 (List.cons 65 List.nil)))))),(ByteArray.mk (List.toArray (List.cons 65 (List.cons 83 (List.cons 45 (List.cons 66 List.nil)))))),(ByteArray.mk (List.toArray (List.cons 65 (List.cons 83 (List.cons 45 (List.cons 67 List.nil)))))),(ByteArray.mk (List.toArray (List.cons 65 (List.cons 83 (List.cons 45 (List.cons 68 List.nil)))))),(ByteArray.mk (List.toArray (List.cons 65 (List.cons 83 (List.cons 45 (List.cons 69 List.nil))))))]:List ByteArray)).length::AV.ref 5 0::X::AV.ref 7 0::dd 5 (AV.d (D.i v1)::AV.d (D.i v7)::dd 58 ([])),some (OB.box (Deck.av v21))::N::N::some (OB.box Registry.zv)::N::some (OB.box [AV.own 56 (List.map Set.toD v9).length,AV.d (D.nil 6)])::N::some (OB.box [AV.d (D.s v16),AV.own 34 (List.map D.i v22).length,AV.d (D.nil 1)])::N::N::N::some (OB.row 9 1 (List.map D.s ([(ByteArray.mk (List.toArray (List.cons 65 (List.cons 83 (List.cons 45 (List.cons 65 List.nil)))))),(ByteArray.mk (List.toArray (List.cons 65 (List.cons 83 (List.cons 45 (List.cons 66 List.nil)))))),(ByteArray.mk (List.toArray (List.cons 65 (List.cons 83 (List.cons 45 (List.cons 67 List.nil)))))),(ByteArray.mk (List.toArray (List.cons 65 (List.cons 83 (List.cons 45 (List.cons 68 List.nil)))))),(ByteArray.mk (List.toArray (List.cons 65 (List.cons 83 (List.cons 45 (List.cons 69 List.nil))))))]:List ByteArray)) false)::nn 22 (some (OB.row 3 1 (List.map D.i v22) false)::nn 21 (some (OB.row 43 3 (List.map Set.toD v9) false)::nn 16 ([])))⟩) ?_ ?_
    ·intro k23 h;revert h;refine loop_while (fun (v24,v25,v26)=>⟨AV.ref 0 0::X::AV.ref 3 0::AV.own 11 (List.map D.s ([(ByteArray.mk (List.toArray (List.cons 65 (List.cons 83 (List.cons 45 (List.cons 65 List.nil)))))),(ByteArray.mk (List.toArray (List.cons 65 (List.cons 83 (List.cons 45 (List.cons 66 List.nil)))))),(ByteArray.mk (List.toArray (List.cons 65 (List.cons 83 (List.cons 45 (List.cons 67 List.nil)))))),(ByteArray.mk (List.toArray (List.cons 65 (List.cons 83 (List.cons 45 (List.cons 68 List.nil)))))),(ByteArray.mk (List.toArray (List.cons 65 (List.cons 83 (List.cons 45 (List.cons 69 List.nil))))))]:List ByteArray)).length::AV.ref 5 0::X::AV.ref 7 0::AV.d (D.i v24)::dd 4 (AV.d (D.i v1)::AV.d (D.i v7)::dd 58 ([])),some (OB.box (Deck.av v25))::N::N::some (OB.box Registry.zv)::N::some (OB.box [AV.own 56 (List.map Set.toD v9).length,AV.d (D.nil 6)])::N::some (OB.box [AV.d (D.s v16),AV.own 34 (List.map D.i v26).length,AV.d (D.nil 1)])::N::N::N::some (OB.row 9 1 (List.map D.s ([(ByteArray.mk (List.toArray (List.cons 65 (List.cons 83 (List.cons 45 (List.cons 65 List.nil)))))),(ByteArray.mk (List.toArray (List.cons 65 (List.cons 83 (List.cons 45 (List.cons 66 List.nil)))))),(ByteArray.mk (List.toArray (List.cons 65 (List.cons 83 (List.cons 45 (List.cons 67 List.nil)))))),(ByteArray.mk (List.toArray (List.cons 65 (List.cons 83 (List.cons 45 (List.cons 68 List.nil)))))),(ByteArray.mk (List.toArray (List.cons 65 (List.cons 83 (List.cons 45 (List.cons 69 List.nil))))))]:List ByteArray)) false)::nn 22 (some (OB.row 3 1 (List.map D.i v26) false)::nn 21 (some (OB.row 43 3 (List.map Set.toD v9) false)::nn 16 ([])))⟩) ?_ ?_
     ·exact wk
     rintro next27 ⟨v24,v25,v26⟩ K28 h hK29;(conv=>whnf);refine .go ?_;revert h;refine sel_if ?_ ?_<;>intro h
     ·(conv=>whnf);refine .go ?_;(conv=>whnf);refine dOB (by kernel_rfl) ?_;obtain ⟨⟨v30,v31⟩,g32,h⟩:=bind_inv h;refine ⟨_,_,make_Deck_Next_ok g32,.inl rfl,?_⟩;refine ⟨_,rfl,?_⟩;refine ⟨rfl,?_⟩;obtain ⟨v33,g34,h⟩:=bind_inv h;refine ⟨rfl,apnd_b (f:=D.i) (g:=D.i) g34,_,apnd_z (f:=D.i) g34,?_⟩;(conv=>whnf);refine cOB (by kernel_rfl) ?_;refine ⟨_,rfl,?_⟩;exact hK29 _ _ wk h
     ·exact join_end wk h
    ·rintro ⟨v21,v22⟩ h;obtain ⟨⟨v35,v36⟩,g37,h⟩:=bind_inv h;refine ⟨_,_,some [],make_Deck_Next_ok g37,?_⟩;revert h;refine cut_join (fun (v38,v39)=>⟨AV.ref 0 0::X::AV.ref 3 0::AV.own 11 (List.map D.s ([(ByteArray.mk (List.toArray (List.cons 65 (List.cons 83 (List.cons 45 (List.cons 65 List.nil)))))),(ByteArray.mk (List.toArray (List.cons 65 (List.cons 83 (List.cons 45 (List.cons 66 List.nil)))))),(ByteArray.mk (List.toArray (List.cons 65 (List.cons 83 (List.cons 45 (List.cons 67 List.nil)))))),(ByteArray.mk (List.toArray (List.cons 65 (List.cons 83 (List.cons 45 (List.cons 68 List.nil)))))),(ByteArray.mk (List.toArray (List.cons 65 (List.cons 83 (List.cons 45 (List.cons 69 List.nil))))))]:List ByteArray)).length::AV.ref 5 0::X::AV.ref 7 0::dd 5 (AV.d (D.i v1)::AV.d (D.i v7)::dd 58 ([])),some (OB.box (Deck.av v38))::N::N::some (OB.box Registry.zv)::N::some (OB.box [AV.own 56 (List.map Set.toD v9).length,AV.d (D.nil 6)])::N::some (OB.box [AV.d (D.s v16),AV.own 34 (List.map D.i v22).length,AV.own 50 (List.map D.s v39).length])::N::N::N::some (OB.row 9 1 (List.map D.s ([(ByteArray.mk (List.toArray (List.cons 65 (List.cons 83 (List.cons 45 (List.cons 65 List.nil)))))),(ByteArray.mk (List.toArray (List.cons 65 (List.cons 83 (List.cons 45 (List.cons 66 List.nil)))))),(ByteArray.mk (List.toArray (List.cons 65 (List.cons 83 (List.cons 45 (List.cons 67 List.nil)))))),(ByteArray.mk (List.toArray (List.cons 65 (List.cons 83 (List.cons 45 (List.cons 68 List.nil)))))),(ByteArray.mk (List.toArray (List.cons 65 (List.cons 83 (List.cons 45 (List.cons 69 List.nil))))))]:List ByteArray)) false)::nn 22 (some (OB.row 3 1 (List.map D.i v22) false)::nn 15 (some (OB.row 9 1 (List.map D.s v39) false)::nn 5 (some (OB.row 43 3 (List.map Set.toD v9) false)::nn 16 ([]))))⟩) ?_ ?_
     ·intro k40 h;revert h;refine loop_while (fun (v41,v42,v43)=>⟨AV.ref 0 0::X::AV.ref 3 0::AV.own 11 (List.map D.s ([(ByteArray.mk (List.toArray (List.cons 65 (List.cons 83 (List.cons 45 (List.cons 65 List.nil)))))),(ByteArray.mk (List.toArray (List.cons 65 (List.cons 83 (List.cons 45 (List.cons 66 List.nil)))))),(ByteArray.mk (List.toArray (List.cons 65 (List.cons 83 (List.cons 45 (List.cons 67 List.nil)))))),(ByteArray.mk (List.toArray (List.cons 65 (List.cons 83 (List.cons 45 (List.cons 68 List.nil)))))),(ByteArray.mk (List.toArray (List.cons 65 (List.cons 83 (List.cons 45 (List.cons 69 List.nil))))))]:List ByteArray)).length::AV.ref 5 0::X::AV.ref 7 0::X::AV.d (D.i v41)::X::X::X::AV.d (D.i v1)::AV.d (D.i v7)::dd 58 ([]),some (OB.box (Deck.av v42))::N::N::some (OB.box Registry.zv)::N::some (OB.box [AV.own 56 (List.map Set.toD v9).length,AV.d (D.nil 6)])::N::some (OB.box [AV.d (D.s v16),AV.own 34 (List.map D.i v22).length,AV.own 50 (List.map D.s v43).length])::N::N::N::some (OB.row 9 1 (List.map D.s ([(ByteArray.mk (List.toArray (List.cons 65 (List.cons 83 (List.cons 45 (List.cons 65 List.nil)))))),(ByteArray.mk (List.toArray (List.cons 65 (List.cons 83 (List.cons 45 (List.cons 66 List.nil)))))),(ByteArray.mk (List.toArray (List.cons 65 (List.cons 83 (List.cons 45 (List.cons 67 List.nil)))))),(ByteArray.mk (List.toArray (List.cons 65 (List.cons 83 (List.cons 45 (List.cons 68 List.nil)))))),(ByteArray.mk (List.toArray (List.cons 65 (List.cons 83 (List.cons 45 (List.cons 69 List.nil))))))]:List ByteArray)) false)::nn 22 (some (OB.row 3 1 (List.map D.i v22) false)::nn 15 (some (OB.row 9 1 (List.map D.s v43) false)::nn 5 (some (OB.row 43 3 (List.map Set.toD v9) false)::nn 16 ([]))))⟩) ?_ ?_
      ·exact wk
      rintro next44 ⟨v41,v42,v43⟩ K45 h hK46;(conv=>whnf);refine .go ?_;revert h;refine sel_if ?_ ?_<;>intro h
      ·(conv=>whnf);refine .go ?_;(conv=>whnf);refine dOB (by kernel_rfl) ?_;obtain ⟨⟨v47,v48⟩,g49,h⟩:=bind_inv h;refine ⟨_,_,make_Deck_Next_ok g49,.inl rfl,?_⟩;obtain ⟨v50,g51,h⟩:=bind_inv h;refine ⟨rfl,geti_b (f:=D.s) g51,?_⟩;refine ⟨rfl,D.s v50,(geti_d (f:=D.s) g51),?_⟩;refine ⟨rfl,?_⟩;obtain ⟨v52,g53,h⟩:=bind_inv h;refine ⟨rfl,apnd_b (f:=D.s) (g:=D.s) g53,_,apnd_z (f:=D.s) g53,?_⟩;(conv=>whnf);refine cOB (by kernel_rfl) ?_;refine ⟨_,rfl,?_⟩;exact hK46 _ _ wk h
      ·exact join_end wk h
     ·rintro ⟨v38,v39⟩ h;(conv=>whnf);refine .inl ?_;refine ⟨rfl,?_⟩;refine ⟨rfl,?_⟩;refine ⟨rfl,?_⟩;obtain ⟨v54,g55,h⟩:=bind_inv h;refine ⟨rfl,apnd_b (f:=Set.toD) (g:=Set.toD) g55,_,apnd_z (f:=Set.toD) g55,?_⟩;exact join_end wk h
   ·rintro ⟨v13,v14⟩ h;refine ⟨_,rfl,?_⟩;exact hK12 _ _ wk h
  ·exact join_end wk h
 ·rintro ⟨v4,v5⟩ h;obtain ⟨⟨v56,v57⟩,g58,h⟩:=bind_inv h;refine ⟨_,_,some [],make_Deck_Next_ok g58,?_⟩;revert h;refine cut_join (fun (v59,v60)=>⟨X::X::AV.ref 3 0::X::AV.ref 5 0::dd 67 ([]),some (OB.box (Deck.av v59))::N::N::some (OB.box Registry.zv)::N::some (OB.box [AV.own 56 (List.map Set.toD v5).length,AV.own 70 (List.map Object.toD v60).length])::nn 50 (some (OB.row 43 3 (List.map Set.toD v5) false)::nn 13 (some (OB.row 55 6 (List.map Object.toD v60) false)::N::N::[]))⟩) ?_ ?_
  ·intro k61 h;revert h;refine loop_while (fun (v62,v63,v64)=>⟨AV.ref 0 0::X::AV.ref 3 0::X::AV.ref 5 0::dd 4 (AV.d (D.i v62)::dd 62 ([])),some (OB.box (Deck.av v63))::N::N::some (OB.box Registry.zv)::N::some (OB.box [AV.own 56 (List.map Set.toD v5).length,AV.own 70 (List.map Object.toD v64).length])::nn 50 (some (OB.row 43 3 (List.map Set.toD v5) false)::nn 13 (some (OB.row 55 6 (List.map Object.toD v64) false)::N::N::[]))⟩) ?_ ?_
   ·exact wk
   rintro next65 ⟨v62,v63,v64⟩ K66 h hK67;(conv=>whnf);refine .go ?_;revert h;refine sel_if ?_ ?_<;>intro h
   ·(conv=>whnf);refine .go ?_;(conv=>whnf);refine dOB (by kernel_rfl) ?_;obtain ⟨⟨v68,v69⟩,g70,h⟩:=bind_inv h;refine ⟨_,_,make_Deck_Object_ok g70,.inl rfl,?_⟩;refine ⟨rfl,?_⟩;obtain ⟨v71,g72,h⟩:=bind_inv h;refine ⟨rfl,apnd_b (f:=Object.toD) (g:=Object.toD) g72,_,apnd_z (f:=Object.toD) g72,?_⟩;(conv=>whnf);refine cOB (by kernel_rfl) ?_;refine ⟨_,rfl,?_⟩;exact hK67 _ _ wk h
   ·exact join_end wk h
  ·rintro ⟨v59,v60⟩ h;(conv=>whnf);refine .inl ?_;refine ⟨rfl,?_⟩;refine ⟨rfl,?_⟩;cases h;exact ⟨rfl,rfl⟩
end Go.AX.Q20
end
section
namespace Go.AX.Q20
open Go Go.AX Go.Proofs
set_option maxRecDepth 100000
set_option maxHeartbeats 4000000
set_option linter.unusedVariables false
theorem law20_bent_ok {wl:Prop} {a0:Registry} {a1:Int} {a2:Int} {r:Registry} (h:law20_bent a0 a1 a2=some r):CallsOK wl Tryz.prog 13 [AV.d (Registry.toD a0),AV.d (D.i a1),AV.d (D.i a2)] [] (.d (Registry.toD r)) []:=by
 refine ok Tryz.f13 (by kernel_rfl) (by kernel_rfl) ⟨rfl,?_⟩;unfold law20_bent at h;(conv=>whnf);refine dOB (by kernel_rfl) ?_;obtain ⟨_,g1,h⟩:=bind_inv h;refine ⟨apnd_b0 (g:=Set.toD) g1,?_⟩;obtain ⟨_,g2,h⟩:=bind_inv h;refine ⟨apnd_b0 (g:=Object.toD) g2,?_⟩;(conv=>whnf);refine cOB (by kernel_rfl) ?_;refine ⟨a0.Sets.length,by first | exact List.length_map _ | rfl | (simp only [List.length_map];omega),?_⟩;revert h;refine cut_join (fun v3=>⟨X::AV.d (D.i a1)::AV.d (D.i a2)::AV.ref 3 0::X::X::AV.ref 6 0::dd 127 ([]),N::N::N::some (OB.box [AV.own 11 (List.map Set.toD v3).length,AV.own 14 (List.map Object.toD a0.Objects).length])::N::N::some (OB.box Registry.zv)::nn 4 (some (OB.row 43 3 (List.map Set.toD v3) false)::N::N::some (OB.row 55 6 (List.map Object.toD a0.Objects) false)::nn 119 ([]))⟩) ?_ ?_
 ·intro k4 h;revert h;refine sel_if ?_ ?_<;>intro h
  ·(conv=>whnf);refine dOB (by kernel_rfl) ?_;refine ⟨a0.Sets.length,by first | exact List.length_map _ | rfl | (simp only [List.length_map];omega),?_⟩;obtain ⟨v5,g6,h⟩:=bind_inv h;refine ⟨_,_,make_Mod_ok g6,.inl rfl,?_⟩;obtain ⟨v7,g8,h⟩:=bind_inv h;refine ⟨rfl,geti_b (f:=Set.toD) g8,?_⟩;(conv=>whnf);refine cOB (by kernel_rfl) ?_;obtain ⟨v9,g10,h⟩:=bind_inv h;refine ⟨_,_,some [],make_Mod_ok g10,?_⟩;(conv=>whnf);refine .go ?_;revert h;refine cut_join (fun v11=>⟨X::AV.d (D.i a1)::AV.d (D.i a2)::AV.ref 3 0::X::X::AV.ref 6 0::dd 127 ([]),N::N::N::some (OB.box [AV.own 11 (List.map Set.toD v11).length,AV.own 14 (List.map Object.toD a0.Objects).length])::N::N::some (OB.box Registry.zv)::nn 4 (some (OB.row 43 3 (List.map Set.toD v11) false)::N::N::some (OB.row 55 6 (List.map Object.toD a0.Objects) false)::nn 119 ([]))⟩) ?_ ?_
   ·intro k12 h;revert h;refine sel_if ?_ ?_<;>intro h
    ·obtain ⟨v13,g14,h⟩:=bind_inv h;refine ⟨_,_,some [],make_Mod_ok g14,?_⟩;obtain ⟨v15,g16,h⟩:=bind_inv h;refine ⟨rfl,geti_b (f:=D.s) g16,?_⟩;refine ⟨rfl,D.s v15,(geti_d (f:=D.s) g16),?_⟩;refine ⟨rfl,?_⟩;obtain ⟨v17,g18,h⟩:=bind_inv h;have g18l:=seti_len g18;refine ⟨rfl,rfl,Set.toD v7,(geti_d (f:=Set.toD) g8),?_⟩;refine ⟨_,seti_z (f:=Set.toD) g18,?_⟩;exact join_end wk h
    ·revert h;refine cut_join (fun v19=>⟨X::AV.d (D.i a1)::AV.d (D.i a2)::AV.ref 3 0::X::X::AV.ref 6 0::dd 127 ([]),N::N::N::some (OB.box [AV.own 11 (List.map Set.toD v19).length,AV.own 14 (List.map Object.toD a0.Objects).length])::N::N::some (OB.box Registry.zv)::nn 4 (some (OB.row 43 3 (List.map Set.toD v19) false)::N::N::some (OB.row 55 6 (List.map Object.toD a0.Objects) false)::nn 119 ([]))⟩) ?_ ?_
     ·intro k20 h;revert h;refine sel_if ?_ ?_<;>intro h
      ·refine ⟨rfl,?_⟩;refine ⟨rfl,Set.toD v7,(geti_d (f:=Set.toD) g8),?_⟩;obtain ⟨_,g21,h⟩:=bind_inv h;refine ⟨apnd_b0 (g:=D.i) g21,?_⟩;obtain ⟨v22,g23,h⟩:=bind_inv h;refine ⟨_,_,some [],make_Mod_ok g23,?_⟩;obtain ⟨v24,g25,h⟩:=bind_inv h;refine ⟨rfl,geti_b (f:=D.i) g25,?_⟩;refine ⟨rfl,D.i v24,(geti_d (f:=D.i) g25),?_⟩;refine ⟨rfl,?_⟩;obtain ⟨v26,g27,h⟩:=bind_inv h;refine ⟨rfl,apnd_b (f:=D.i) (g:=D.i) g27,_,apnd_z (f:=D.i) g27,?_⟩;refine ⟨rfl,?_⟩;obtain ⟨v28,g29,h⟩:=bind_inv h;have g29l:=seti_len g29;refine ⟨rfl,?_⟩;refine ⟨rfl,rfl,Set.toD v7,(geti_d (f:=Set.toD) g8),?_⟩;refine ⟨_,seti_z (f:=Set.toD) g29,?_⟩;exact join_end wk h
      ·revert h;refine cut_join (fun v30=>⟨X::AV.d (D.i a1)::AV.d (D.i a2)::AV.ref 3 0::X::X::AV.ref 6 0::dd 127 ([]),N::N::N::some (OB.box [AV.own 11 (List.map Set.toD v30).length,AV.own 14 (List.map Object.toD a0.Objects).length])::N::N::some (OB.box Registry.zv)::nn 4 (some (OB.row 43 3 (List.map Set.toD v30) false)::N::N::some (OB.row 55 6 (List.map Object.toD a0.Objects) false)::nn 119 ([]))⟩) ?_ ?_
       ·intro k31 h;revert h;refine sel_if ?_ ?_<;>intro h
        ·refine ⟨rfl,?_⟩;refine ⟨rfl,Set.toD v7,(geti_d (f:=Set.toD) g8),?_⟩;obtain ⟨_,g32,h⟩:=bind_inv h;refine ⟨apnd_b0 (g:=D.s) g32,?_⟩;obtain ⟨v33,g34,h⟩:=bind_inv h;refine ⟨_,_,some [],make_Mod_ok g34,?_⟩;obtain ⟨v35,g36,h⟩:=bind_inv h;refine ⟨rfl,geti_b (f:=D.s) g36,?_⟩;refine ⟨rfl,D.s v35,(geti_d (f:=D.s) g36),?_⟩;refine ⟨rfl,?_⟩;obtain ⟨v37,g38,h⟩:=bind_inv h;refine ⟨rfl,apnd_b (f:=D.s) (g:=D.s) g38,_,apnd_z (f:=D.s) g38,?_⟩;refine ⟨rfl,?_⟩;obtain ⟨v39,g40,h⟩:=bind_inv h;have g40l:=seti_len g40;refine ⟨rfl,?_⟩;refine ⟨rfl,rfl,Set.toD v7,(geti_d (f:=Set.toD) g8),?_⟩;refine ⟨_,seti_z (f:=Set.toD) g40,?_⟩;exact join_end wk h
        ·exact join_end wk h
       ·rintro v30 h;exact join_end wk h
     ·rintro v19 h;exact join_end wk h
   ·rintro v11 h;exact join_end wk h
  ·exact join_end wk h
 ·rintro v3 h;refine ⟨a0.Objects.length,by first | exact List.length_map _ | rfl | (simp only [List.length_map];omega),?_⟩;revert h;refine cut_join (fun v41=>⟨X::X::X::AV.ref 3 0::X::X::AV.ref 6 0::dd 127 ([]),N::N::N::some (OB.box [AV.own 11 (List.map Set.toD v3).length,AV.own 14 (List.map Object.toD v41).length])::N::N::some (OB.box Registry.zv)::nn 4 (some (OB.row 43 3 (List.map Set.toD v3) false)::N::N::some (OB.row 55 6 (List.map Object.toD v41) false)::nn 119 ([]))⟩) ?_ ?_
  ·intro k42 h;revert h;refine sel_if ?_ ?_<;>intro h
   ·(conv=>whnf);refine dOB (by kernel_rfl) ?_;refine ⟨a0.Objects.length,by first | exact List.length_map _ | rfl | (simp only [List.length_map];omega),?_⟩;obtain ⟨v43,g44,h⟩:=bind_inv h;refine ⟨_,_,make_Mod_ok g44,.inl rfl,?_⟩;obtain ⟨v45,g46,h⟩:=bind_inv h;refine ⟨rfl,geti_b (f:=Object.toD) g46,?_⟩;(conv=>whnf);refine cOB (by kernel_rfl) ?_;obtain ⟨v47,g48,h⟩:=bind_inv h;refine ⟨_,_,some [],make_Mod_ok g48,?_⟩;(conv=>whnf);refine .go ?_;revert h;refine cut_join (fun v49=>⟨X::X::X::AV.ref 3 0::X::X::AV.ref 6 0::dd 127 ([]),N::N::N::some (OB.box [AV.own 11 (List.map Set.toD v3).length,AV.own 14 (List.map Object.toD v49).length])::N::N::some (OB.box Registry.zv)::nn 4 (some (OB.row 43 3 (List.map Set.toD v3) false)::N::N::some (OB.row 55 6 (List.map Object.toD v49) false)::nn 119 ([]))⟩) ?_ ?_
    ·intro k50 h;revert h;refine sel_if ?_ ?_<;>intro h
     ·(conv=>whnf);refine dOB (by kernel_rfl) ?_;refine ⟨rfl,?_⟩;refine ⟨rfl,?_⟩;refine ⟨rfl,Object.toD v45,(geti_d (f:=Object.toD) g46),?_⟩;obtain ⟨v51,g52,h⟩:=bind_inv h;refine ⟨_,_,make_Mod_ok g52,.inl rfl,?_⟩;refine ⟨_,rfl,?_⟩;refine ⟨rfl,?_⟩;obtain ⟨v53,g54,h⟩:=bind_inv h;have g54l:=seti_len g54;refine ⟨rfl,rfl,Object.toD v45,(geti_d (f:=Object.toD) g46),?_⟩;refine ⟨_,seti_z (f:=Object.toD) g54,?_⟩;(conv=>whnf);refine cOB (by kernel_rfl) ?_;exact join_end wk h
     ·revert h;refine cut_join (fun v55=>⟨X::X::X::AV.ref 3 0::X::X::AV.ref 6 0::dd 127 ([]),N::N::N::some (OB.box [AV.own 11 (List.map Set.toD v3).length,AV.own 14 (List.map Object.toD v55).length])::N::N::some (OB.box Registry.zv)::nn 4 (some (OB.row 43 3 (List.map Set.toD v3) false)::N::N::some (OB.row 55 6 (List.map Object.toD v55) false)::nn 119 ([]))⟩) ?_ ?_
      ·intro k56 h;revert h;refine sel_if ?_ ?_<;>intro h
       ·obtain ⟨v57,g58,h⟩:=bind_inv h;refine ⟨_,_,some [],make_Mod_ok g58,?_⟩;obtain ⟨v59,g60,h⟩:=bind_inv h;refine ⟨rfl,geti_b (f:=D.i) g60,?_⟩;refine ⟨rfl,D.i v59,(geti_d (f:=D.i) g60),?_⟩;refine ⟨rfl,?_⟩;obtain ⟨v61,g62,h⟩:=bind_inv h;have g62l:=seti_len g62;refine ⟨rfl,rfl,Object.toD v45,(geti_d (f:=Object.toD) g46),?_⟩;refine ⟨_,seti_z (f:=Object.toD) g62,?_⟩;exact join_end wk h
       ·revert h;refine cut_join (fun v63=>⟨X::X::X::AV.ref 3 0::X::X::AV.ref 6 0::dd 127 ([]),N::N::N::some (OB.box [AV.own 11 (List.map Set.toD v3).length,AV.own 14 (List.map Object.toD v63).length])::N::N::some (OB.box Registry.zv)::nn 4 (some (OB.row 43 3 (List.map Set.toD v3) false)::N::N::some (OB.row 55 6 (List.map Object.toD v63) false)::nn 119 ([]))⟩) ?_ ?_
        ·intro k64 h;revert h;refine sel_if ?_ ?_<;>intro h
         ·obtain ⟨v65,g66,h⟩:=bind_inv h;refine ⟨_,_,some [],make_Mod_ok g66,?_⟩;obtain ⟨v67,g68,h⟩:=bind_inv h;refine ⟨rfl,geti_b (f:=D.i) g68,?_⟩;refine ⟨rfl,D.i v67,(geti_d (f:=D.i) g68),?_⟩;refine ⟨rfl,?_⟩;obtain ⟨v69,g70,h⟩:=bind_inv h;have g70l:=seti_len g70;refine ⟨rfl,rfl,Object.toD v45,(geti_d (f:=Object.toD) g46),?_⟩;refine ⟨_,seti_z (f:=Object.toD) g70,?_⟩;exact join_end wk h
         ·revert h;refine cut_join (fun v71=>⟨X::X::X::AV.ref 3 0::X::X::AV.ref 6 0::dd 127 ([]),N::N::N::some (OB.box [AV.own 11 (List.map Set.toD v3).length,AV.own 14 (List.map Object.toD v71).length])::N::N::some (OB.box Registry.zv)::nn 4 (some (OB.row 43 3 (List.map Set.toD v3) false)::N::N::some (OB.row 55 6 (List.map Object.toD v71) false)::nn 119 ([]))⟩) ?_ ?_
          ·intro k72 h;revert h;refine sel_if ?_ ?_<;>intro h
           ·refine ⟨rfl,?_⟩;refine ⟨rfl,?_⟩;refine ⟨rfl,Object.toD v45,(geti_d (f:=Object.toD) g46),?_⟩;refine ⟨_,rfl,?_⟩;refine ⟨rfl,?_⟩;refine ⟨rfl,?_⟩;obtain ⟨v73,g74,h⟩:=bind_inv h;have g74l:=seti_len g74;refine ⟨rfl,rfl,Object.toD v45,(geti_d (f:=Object.toD) g46),?_⟩;refine ⟨_,seti_z (f:=Object.toD) g74,?_⟩;exact join_end wk h
           ·exact join_end wk h
          ·rintro v71 h;exact join_end wk h
        ·rintro v63 h;exact join_end wk h
      ·rintro v55 h;exact join_end wk h
    ·rintro v49 h;exact join_end wk h
   ·exact join_end wk h
  ·rintro v41 h;(conv=>whnf);refine .inl ?_;refine ⟨rfl,?_⟩;refine ⟨rfl,?_⟩;cases h;exact ⟨rfl,rfl⟩
theorem ref08_Name_ok {wl:Prop} {a0:ByteArray} {r:Bool} (h:ref08_Name a0=some r):CallsOK wl Tryz.prog 39 [AV.d (D.s a0)] [] (.d (D.b r)) []:=by
 refine ok Tryz.f39 (by kernel_rfl) (by kernel_rfl) ⟨rfl,?_⟩;unfold ref08_Name at h;revert h;refine cut_join (fun _=>⟨AV.d (D.s a0)::dd 52 ([]),nn 53 ([])⟩) ?_ ?_
 ·intro k1 h;revert h;refine loop_while (fun v2=>⟨AV.d (D.s a0)::dd 5 (AV.d (D.i (a0.size:Int))::AV.d (D.i v2)::dd 45 ([])),nn 53 ([])⟩) ?_ ?_
  ·exact wk
  rintro next3 v2 K4 h hK5;(conv=>whnf);refine .go ?_;revert h;refine sel_if ?_ ?_<;>intro h
  ·(conv=>whnf);refine .go ?_;obtain ⟨v6,g7,h⟩:=bind_inv h;refine ⟨geti_s g7,v6,geti_sd g7,?_⟩;revert h;refine cut_join (fun v8=>⟨AV.d (D.s a0)::dd 5 (AV.d (D.i (a0.size:Int))::AV.d (D.i v2)::dd 35 (AV.d (D.b v8)::dd 9 ([]))),nn 53 ([])⟩) ?_ ?_
   ·intro k9 h;revert h;refine sel_if ?_ ?_<;>intro h
    ·revert h;refine sel_if ?_ ?_<;>intro h
     ·exact join_end wk h
     ·revert h;refine sel_if ?_ ?_<;>intro h
      ·revert h;refine sel_if ?_ ?_<;>intro h
       ·exact join_end wk h
       ·revert h;refine sel_if ?_ ?_<;>intro h
        ·revert h;refine sel_if ?_ ?_<;>intro h
         ·exact join_end wk h
         ·revert h;refine sel_if ?_ ?_<;>intro h
          ·exact join_end wk h
          ·exact join_end wk h
        ·revert h;refine sel_if ?_ ?_<;>intro h
         ·exact join_end wk h
         ·exact join_end wk h
      ·revert h;refine sel_if ?_ ?_<;>intro h
       ·revert h;refine sel_if ?_ ?_<;>intro h
        ·exact join_end wk h
        ·revert h;refine sel_if ?_ ?_<;>intro h
         ·exact join_end wk h
         ·exact join_end wk h
       ·revert h;refine sel_if ?_ ?_<;>intro h
        ·exact join_end wk h
        ·exact join_end wk h
    ·revert h;refine sel_if ?_ ?_<;>intro h
     ·revert h;refine sel_if ?_ ?_<;>intro h
      ·exact join_end wk h
      ·revert h;refine sel_if ?_ ?_<;>intro h
       ·revert h;refine sel_if ?_ ?_<;>intro h
        ·exact join_end wk h
        ·revert h;refine sel_if ?_ ?_<;>intro h
         ·exact join_end wk h
         ·exact join_end wk h
       ·revert h;refine sel_if ?_ ?_<;>intro h
        ·exact join_end wk h
        ·exact join_end wk h
     ·revert h;refine sel_if ?_ ?_<;>intro h
      ·revert h;refine sel_if ?_ ?_<;>intro h
       ·exact join_end wk h
       ·revert h;refine sel_if ?_ ?_<;>intro h
        ·exact join_end wk h
        ·exact join_end wk h
      ·revert h;refine sel_if ?_ ?_<;>intro h
       ·exact join_end wk h
       ·exact join_end wk h
   ·rintro v8 h;(conv=>whnf);refine .go ?_;revert h;refine sel_if ?_ ?_<;>intro h
    ·cases h;exact ⟨rfl,rfl⟩
    ·refine ⟨_,rfl,?_⟩;exact hK5 _ _ wk h
  ·exact join_end wk h
 ·rintro _ h;revert h;refine cut_join (fun v10=>⟨X::X::AV.d (D.b v10)::dd 50 ([]),nn 53 ([])⟩) ?_ ?_
  ·intro k11 h;revert h;refine sel_if ?_ ?_<;>intro h
   ·exact join_end wk h
   ·exact join_end wk h
  ·rintro v10 h;cases h;exact ⟨rfl,rfl⟩
theorem ref02_Valid_ok {wl:Prop} {a0:Prefix} {r:Bool} (h:ref02_Valid a0=some r):CallsOK wl Tryz.prog 64 [AV.d (Prefix.toD a0)] [] (.d (D.b r)) []:=by
 refine ok Tryz.f64 (by kernel_rfl) (by kernel_rfl) ⟨rfl,?_⟩;unfold ref02_Valid at h;obtain ⟨⟨v1,v2⟩,g3,h⟩:=bind_inv h;refine ⟨_,_,some [],ref02_Make_ok g3,?_⟩;revert h;refine cut_join (fun v4=>⟨X::X::AV.d (D.b v4)::dd 17 ([]),nn 20 ([])⟩) ?_ ?_
 ·intro k5 h;revert h;refine sel_if ?_ ?_<;>intro h
  ·exact join_end wk h
  ·exact join_end wk h
 ·rintro v4 h;cases h;exact ⟨rfl,rfl⟩
theorem ref20_ValidObject_ok {wl:Prop} {a0:Object} {r:Bool} (h:ref20_ValidObject a0=some r):CallsOK wl Tryz.prog 40 [AV.d (Object.toD a0)] [] (.d (D.b r)) []:=by
 refine ok Tryz.f40 (by kernel_rfl) (by kernel_rfl) ⟨rfl,?_⟩;unfold ref20_ValidObject at h;revert h;refine cut_join (fun v1=>⟨X::AV.ref 1 0::X::AV.d (D.i v1)::dd 31 ([]),N::some (OB.box (Object.av a0))::nn 33 ([])⟩) ?_ ?_
 ·intro k2 h;revert h;refine sel_if ?_ ?_<;>intro h
  ·exact join_end wk h
  ·exact join_end wk h
 ·rintro v1 h;revert h;refine cut_join (fun v3=>⟨X::X::AV.d (D.b v3)::dd 32 ([]),nn 35 ([])⟩) ?_ ?_
  ·intro k4 h;obtain ⟨v5,g6,h⟩:=bind_inv h;refine ⟨_,_,some [],ref02_Valid_ok g6,?_⟩;revert h;refine sel_if ?_ ?_<;>intro h
   ·revert h;refine sel_if ?_ ?_<;>intro h
    ·revert h;refine sel_if ?_ ?_<;>intro h
     ·revert h;refine sel_if ?_ ?_<;>intro h
      ·exact join_end wk h
      ·exact join_end wk h
     ·exact join_end wk h
    ·exact join_end wk h
   ·exact join_end wk h
  ·rintro v3 h;cases h;exact ⟨rfl,rfl⟩
theorem ref20_Valid_ok {wl:Prop} {a0:Registry} {r:Bool} (h:ref20_Valid a0=some r):CallsOK wl Tryz.prog 15 [AV.d (Registry.toD a0)] [] (.d (D.b r)) []:=by
 refine ok Tryz.f15 (by kernel_rfl) (by kernel_rfl) ⟨rfl,?_⟩;unfold ref20_Valid at h;refine ⟨a0.Sets.length,List.length_map _,?_⟩;revert h;refine cut_join (fun _=>⟨X::AV.ref 1 0::dd 90 ([]),N::some (OB.box (Registry.av a0))::nn 90 ([])⟩) ?_ ?_
 ·intro k1 h;revert h;refine loop_for 14 3 Set.toD rfl (fun i2 v3=>⟨X::AV.ref 1 0::X::AV.mp 12::dd 10 (AV.d (D.l 3 Set.toD a0.Sets)::AV.d (D.i (a0.Sets.length:Int))::AV.d (D.i (i2:Int))::dd 75 ([])),N::some (OB.box (Registry.av a0))::nn 10 (some (OB.map 9 4 (entsD D.s D.b v3))::nn 79 ([]))⟩) ?_ ?_ ?_
  ·exact wk
  ·rintro v3 K4 h;(conv=>whnf);refine .go ?_;(conv=>whnf);refine sel_f lt_f ?_;exact join_end wk h
  ·rintro next5 i2 x6 v3 K4 hii2 hxi2 hwi2 h hK7;(conv=>whnf);refine .go ?_;(conv=>whnf);refine sel_t (lt_t hii2) ?_;revert h;refine cut_join (fun _=>⟨X::AV.ref 1 0::X::AV.mp 12::dd 10 (AV.d (D.l 3 Set.toD a0.Sets)::AV.d (D.i (a0.Sets.length:Int))::AV.d (D.i (i2:Int))::dd 75 ([])),N::some (OB.box (Registry.av a0))::nn 10 (some (OB.map 9 4 (entsD D.s D.b (mset v3 x6.Name true)))::nn 79 ([]))⟩) ?_ ?_
   ·intro k8 h;refine ⟨idx_b (f:=Set.toD) hii2,Set.toD x6,hxi2,rfl,?_⟩;revert h;refine cut_join (fun v9=>⟨X::AV.ref 1 0::X::AV.mp 12::X::AV.ref 5 0::dd 8 (AV.d (D.l 3 Set.toD a0.Sets)::AV.d (D.i (a0.Sets.length:Int))::AV.d (D.i (i2:Int))::dd 24 (AV.d (D.b v9)::dd 50 ([]))),N::some (OB.box (Registry.av a0))::N::N::N::some (OB.box (Set.av x6))::nn 6 (some (OB.map 9 4 (entsD D.s D.b v3))::nn 79 ([]))⟩) ?_ ?_
    ·intro k10 h;obtain ⟨v11,g12,h⟩:=bind_inv h;refine ⟨_,_,some [],ref08_Name_ok g12,?_⟩;revert h;refine sel_if ?_ ?_<;>intro h
     ·exact join_end wk h
     ·obtain ⟨v13,g14,h⟩:=bind_inv h;refine ⟨_,mapGet_ok (ek:=D.s) (ev:=D.b) (l:=v3) (k:=x6.Name) keyEq_s,D.b v13,mget_dg (z:=false) rfl g14,_,rfl,?_⟩;revert h;refine sel_if ?_ ?_<;>intro h
      ·exact join_end wk h
      ·refine ⟨x6.ASNs.length,List.length_map _,?_⟩;revert h;refine sel_if ?_ ?_<;>intro h
       ·exact join_end wk h
       ·refine ⟨x6.Sets.length,List.length_map _,?_⟩;exact join_end wk h
    ·rintro v9 h;(conv=>whnf);refine .go ?_;revert h;refine sel_if ?_ ?_<;>intro h
     ·cases h;exact ⟨rfl,rfl⟩
     ·refine ⟨_,mapSet_ok (ek:=D.s) (ev:=D.b) (l:=v3) (k:=x6.Name) (v:=true) keyEq_s,?_⟩;refine ⟨x6.ASNs.length,List.length_map _,?_⟩;revert h;refine cut_join (fun _=>⟨X::AV.ref 1 0::X::AV.mp 12::X::AV.ref 5 0::dd 8 (AV.d (D.l 3 Set.toD a0.Sets)::AV.d (D.i (a0.Sets.length:Int))::AV.d (D.i (i2:Int))::dd 75 ([])),N::some (OB.box (Registry.av a0))::N::N::N::some (OB.box (Set.av x6))::nn 6 (some (OB.map 9 4 (entsD D.s D.b (mset v3 x6.Name true)))::nn 79 ([]))⟩) ?_ ?_
      ·intro k15 h;revert h;refine loop_for 46 1 D.i rfl (fun i16 _=>⟨X::AV.ref 1 0::X::AV.mp 12::X::AV.ref 5 0::dd 8 (AV.d (D.l 3 Set.toD a0.Sets)::AV.d (D.i (a0.Sets.length:Int))::AV.d (D.i (i2:Int))::dd 29 (AV.d (D.l 1 D.i x6.ASNs)::AV.d (D.i (x6.ASNs.length:Int))::AV.d (D.i (i16:Int))::dd 43 ([]))),N::some (OB.box (Registry.av a0))::N::N::N::some (OB.box (Set.av x6))::nn 6 (some (OB.map 9 4 (entsD D.s D.b (mset v3 x6.Name true)))::nn 79 ([]))⟩) ?_ ?_ ?_
       ·exact wk
       ·rintro _ K17 h;(conv=>whnf);refine .go ?_;(conv=>whnf);refine sel_f lt_f ?_;exact join_end wk h
       ·rintro next18 i16 x19 _ K17 hii16 hxi16 hwi16 h hK20;(conv=>whnf);refine .go ?_;(conv=>whnf);refine sel_t (lt_t hii16) ?_;(conv=>whnf);refine .go ?_;refine ⟨idx_b (f:=D.i) hii16,D.i x19,hxi16,rfl,?_⟩;revert h;refine cut_join (fun v21=>⟨X::AV.ref 1 0::X::AV.mp 12::X::AV.ref 5 0::dd 8 (AV.d (D.l 3 Set.toD a0.Sets)::AV.d (D.i (a0.Sets.length:Int))::AV.d (D.i (i2:Int))::dd 29 (AV.d (D.l 1 D.i x6.ASNs)::AV.d (D.i (x6.ASNs.length:Int))::AV.d (D.i (i16:Int))::dd 8 (AV.d (D.b v21)::dd 34 ([])))),N::some (OB.box (Registry.av a0))::N::N::N::some (OB.box (Set.av x6))::nn 6 (some (OB.map 9 4 (entsD D.s D.b (mset v3 x6.Name true)))::nn 79 ([]))⟩) ?_ ?_
        ·intro k22 h;revert h;refine sel_if ?_ ?_<;>intro h
         ·exact join_end wk h
         ·exact join_end wk h
        ·rintro v21 h;(conv=>whnf);refine .go ?_;revert h;refine sel_if ?_ ?_<;>intro h
         ·cases h;exact ⟨rfl,rfl⟩
         ·refine ⟨_,hwi16,?_⟩;exact hK20 _ _ wk h
      ·rintro _ h;refine ⟨x6.Sets.length,List.length_map _,?_⟩;revert h;refine cut_join (fun _=>⟨X::AV.ref 1 0::X::AV.mp 12::dd 10 (AV.d (D.l 3 Set.toD a0.Sets)::AV.d (D.i (a0.Sets.length:Int))::AV.d (D.i (i2:Int))::dd 75 ([])),N::some (OB.box (Registry.av a0))::nn 10 (some (OB.map 9 4 (entsD D.s D.b (mset v3 x6.Name true)))::nn 79 ([]))⟩) ?_ ?_
       ·intro k23 h;revert h;refine loop_for 60 1 D.s rfl (fun i24 _=>⟨X::AV.ref 1 0::X::AV.mp 12::dd 10 (AV.d (D.l 3 Set.toD a0.Sets)::AV.d (D.i (a0.Sets.length:Int))::AV.d (D.i (i2:Int))::dd 43 (AV.d (D.l 1 D.s x6.Sets)::AV.d (D.i (x6.Sets.length:Int))::AV.d (D.i (i24:Int))::dd 29 ([]))),N::some (OB.box (Registry.av a0))::nn 10 (some (OB.map 9 4 (entsD D.s D.b (mset v3 x6.Name true)))::nn 79 ([]))⟩) ?_ ?_ ?_
        ·exact wk
        ·rintro _ K25 h;(conv=>whnf);refine .go ?_;(conv=>whnf);refine sel_f lt_f ?_;exact join_end wk h
        ·rintro next26 i24 x27 _ K25 hii24 hxi24 hwi24 h hK28;(conv=>whnf);refine .go ?_;(conv=>whnf);refine sel_t (lt_t hii24) ?_;(conv=>whnf);refine .go ?_;refine ⟨idx_b (f:=D.s) hii24,D.s x27,hxi24,rfl,?_⟩;obtain ⟨v29,g30,h⟩:=bind_inv h;refine ⟨_,_,some [],ref08_Name_ok g30,?_⟩;(conv=>whnf);refine .go ?_;revert h;refine sel_if ?_ ?_<;>intro h
         ·cases h;exact ⟨rfl,rfl⟩
         ·refine ⟨_,hwi24,?_⟩;exact hK28 _ _ wk h
       ·rintro _ h;exact join_end wk h
   ·rintro _ h;refine ⟨_,hwi2,?_⟩;exact hK7 _ _ wk h
 ·rintro _ h;refine ⟨a0.Objects.length,List.length_map _,?_⟩;revert h;refine cut_join (fun _=>⟨X::AV.ref 1 0::dd 90 ([]),N::some (OB.box (Registry.av a0))::nn 90 ([])⟩) ?_ ?_
  ·intro k31 h;revert h;refine loop_for 72 6 Object.toD rfl (fun i32 _=>⟨X::AV.ref 1 0::dd 70 (AV.d (D.l 6 Object.toD a0.Objects)::AV.d (D.i (a0.Objects.length:Int))::AV.d (D.i (i32:Int))::dd 17 ([])),N::some (OB.box (Registry.av a0))::nn 90 ([])⟩) ?_ ?_ ?_
   ·exact wk
   ·rintro _ K33 h;(conv=>whnf);refine .go ?_;(conv=>whnf);refine sel_f lt_f ?_;exact join_end wk h
   ·rintro next34 i32 x35 _ K33 hii32 hxi32 hwi32 h hK36;(conv=>whnf);refine .go ?_;(conv=>whnf);refine sel_t (lt_t hii32) ?_;(conv=>whnf);refine .go ?_;refine ⟨idx_b (f:=Object.toD) hii32,Object.toD x35,hxi32,rfl,?_⟩;obtain ⟨v37,g38,h⟩:=bind_inv h;refine ⟨_,_,some [],ref20_ValidObject_ok g38,?_⟩;(conv=>whnf);refine .go ?_;revert h;refine sel_if ?_ ?_<;>intro h
    ·cases h;exact ⟨rfl,rfl⟩
    ·refine ⟨_,hwi32,?_⟩;exact hK36 _ _ wk h
  ·rintro _ h;revert h;refine cut_join (fun v39=>⟨X::X::AV.d (D.b v39)::dd 89 ([]),nn 92 ([])⟩) ?_ ?_
   ·intro k40 h;refine ⟨a0.Sets.length,List.length_map _,?_⟩;revert h;refine sel_if ?_ ?_<;>intro h
    ·refine ⟨a0.Objects.length,List.length_map _,?_⟩;exact join_end wk h
    ·exact join_end wk h
   ·rintro v39 h;cases h;exact ⟨rfl,rfl⟩
theorem ref20_find_ok {wl:Prop} {a0:Registry} {a1:ByteArray} {r:Set×Bool} (h:ref20_find a0 a1=some r):CallsOK wl Tryz.prog 45 [AV.d (Registry.toD a0),AV.d (D.s a1)] [] (.tup [.d (Set.toD r.1),.d (D.b r.2)]) []:=by
 refine ok Tryz.f45 (by kernel_rfl) (by kernel_rfl) ⟨rfl,?_⟩;unfold ref20_find at h;refine ⟨a0.Sets.length,List.length_map _,?_⟩;revert h;refine cut_join (fun _=>⟨dd 4 (AV.ref 4 0::dd 17 ([])),nn 4 (some (OB.box Set.zv)::nn 17 ([]))⟩) ?_ ?_
 ·intro k1 h;revert h;refine loop_for 9 3 Set.toD rfl (fun i2 _=>⟨X::AV.d (D.s a1)::X::X::AV.ref 4 0::dd 4 (AV.d (D.l 3 Set.toD a0.Sets)::AV.d (D.i (a0.Sets.length:Int))::AV.d (D.i (i2:Int))::dd 10 ([])),nn 4 (some (OB.box Set.zv)::nn 17 ([]))⟩) ?_ ?_ ?_
  ·exact wk
  ·rintro _ K3 h;(conv=>whnf);refine .go ?_;(conv=>whnf);refine sel_f lt_f ?_;exact join_end wk h
  ·rintro next4 i2 x5 _ K3 hii2 hxi2 hwi2 h hK6;(conv=>whnf);refine .go ?_;(conv=>whnf);refine sel_t (lt_t hii2) ?_;(conv=>whnf);refine .go ?_;refine ⟨idx_b (f:=Set.toD) hii2,Set.toD x5,hxi2,rfl,?_⟩;(conv=>whnf);refine .go ?_;revert h;refine sel_if ?_ ?_<;>intro h
   ·cases h;exact ⟨rfl,rfl⟩
   ·refine ⟨_,hwi2,?_⟩;exact hK6 _ _ wk h
 ·rintro _ h;cases h;exact ⟨rfl,rfl⟩
theorem ref20_insertName_ok {wl:Prop} {a0:List ByteArray} {a1:ByteArray} {r:(List ByteArray)} (h:ref20_insertName a0 a1=some r):CallsOK wl Tryz.prog 46 [AV.d (D.l 1 D.s a0),AV.d (D.s a1)] [] (.d (D.l 1 D.s r)) []:=by
 refine ok Tryz.f46 (by kernel_rfl) (by kernel_rfl) ⟨rfl,?_⟩;unfold ref20_insertName at h;revert h;refine cut_join (fun v1=>⟨AV.d (D.l 1 D.s a0)::AV.d (D.s a1)::X::X::X::AV.d (D.i v1)::dd 38 ([]),nn 44 ([])⟩) ?_ ?_
 ·intro k2 h;revert h;refine loop_while (fun v3=>⟨AV.d (D.l 1 D.s a0)::AV.d (D.s a1)::X::X::X::AV.d (D.i v3)::dd 38 ([]),nn 44 ([])⟩) ?_ ?_
  ·exact wk
  rintro next4 v3 K5 h hK6;revert h;refine cut_join (fun v7=>⟨AV.d (D.l 1 D.s a0)::AV.d (D.s a1)::X::X::X::AV.d (D.i v3)::dd 11 (AV.d (D.b v7)::dd 26 ([])),nn 44 ([])⟩) ?_ ?_
  ·intro k8 h;refine ⟨a0.length,List.length_map _,?_⟩;revert h;refine sel_if ?_ ?_<;>intro h
   ·obtain ⟨v9,g10,h⟩:=bind_inv h;refine ⟨geti_b (f:=D.s) g10,D.s v9,geti_d (f:=D.s) g10,rfl,?_⟩;exact join_end wk h
   ·exact join_end wk h
  ·rintro v7 h;(conv=>whnf);refine .go ?_;revert h;refine sel_if ?_ ?_<;>intro h
   ·(conv=>whnf);refine .go ?_;refine ⟨_,rfl,?_⟩;exact hK6 _ _ wk h
   ·exact join_end wk h
 ·rintro v1 h;revert h;refine cut_join (fun v11=>⟨AV.d (D.l 1 D.s a0)::AV.d (D.s a1)::X::X::X::AV.d (D.i v1)::dd 25 (AV.d (D.b v11)::dd 12 ([])),nn 44 ([])⟩) ?_ ?_
  ·intro k12 h;refine ⟨a0.length,List.length_map _,?_⟩;revert h;refine sel_if ?_ ?_<;>intro h
   ·obtain ⟨v13,g14,h⟩:=bind_inv h;refine ⟨geti_b (f:=D.s) g14,D.s v13,geti_d (f:=D.s) g14,rfl,?_⟩;exact join_end wk h
   ·exact join_end wk h
  ·rintro v11 h;(conv=>whnf);refine .go ?_;revert h;refine sel_if ?_ ?_<;>intro h
   ·cases h;exact ⟨rfl,rfl⟩
   ·(conv=>whnf);refine dOB (by kernel_rfl) ?_;obtain ⟨v15,g16,h⟩:=bind_inv h;refine ⟨part_b (f:=D.s) g16,_,part_z (f:=D.s) g16,?_⟩;obtain ⟨_,g17,h⟩:=bind_inv h;refine ⟨apnd_b0 (g:=D.s) g17,?_⟩;refine ⟨rfl,?_⟩;obtain ⟨v18,g19,h⟩:=bind_inv h;refine ⟨rfl,apnd_b (f:=D.s) (g:=D.s) g19,_,apnd_z (f:=D.s) g19,?_⟩;obtain ⟨v20,g21,h⟩:=bind_inv h;refine ⟨part_b0 (f:=D.s) g21,_,part_z0 (f:=D.s) g21,?_⟩;obtain ⟨v22,g23,h⟩:=bind_inv h;refine ⟨rfl,apnd_b (f:=D.s) (g:=D.s) g23,_,apnd_z (f:=D.s) g23,?_⟩;(conv=>whnf);refine cOB (by kernel_rfl) ?_;(conv=>whnf);refine .inl ?_;(conv=>whnf);refine .inl ?_;refine ⟨rfl,?_⟩;cases h;exact ⟨rfl,rfl⟩
end Go.AX.Q20
end
section
namespace Go.AX.Q20
open Go Go.AX Go.Proofs
set_option maxRecDepth 100000
set_option maxHeartbeats 4000000
set_option linter.unusedVariables false
theorem ref20_insert_ok {wl:Prop} {a0:List Int} {a1:Int} {r:(List Int)} (h:ref20_insert a0 a1=some r):CallsOK wl Tryz.prog 47 [AV.d (D.l 1 D.i a0),AV.d (D.i a1)] [] (.d (D.l 1 D.i r)) []:=by
 refine ok Tryz.f47 (by kernel_rfl) (by kernel_rfl) ⟨rfl,?_⟩;unfold ref20_insert at h;revert h;refine cut_join (fun v1=>⟨AV.d (D.l 1 D.i a0)::AV.d (D.i a1)::X::X::X::AV.d (D.i v1)::dd 38 ([]),nn 44 ([])⟩) ?_ ?_
 ·intro k2 h;revert h;refine loop_while (fun v3=>⟨AV.d (D.l 1 D.i a0)::AV.d (D.i a1)::X::X::X::AV.d (D.i v3)::dd 38 ([]),nn 44 ([])⟩) ?_ ?_
  ·exact wk
  rintro next4 v3 K5 h hK6;revert h;refine cut_join (fun v7=>⟨AV.d (D.l 1 D.i a0)::AV.d (D.i a1)::X::X::X::AV.d (D.i v3)::dd 11 (AV.d (D.b v7)::dd 26 ([])),nn 44 ([])⟩) ?_ ?_
  ·intro k8 h;refine ⟨a0.length,List.length_map _,?_⟩;revert h;refine sel_if ?_ ?_<;>intro h
   ·obtain ⟨v9,g10,h⟩:=bind_inv h;refine ⟨geti_b (f:=D.i) g10,D.i v9,geti_d (f:=D.i) g10,rfl,?_⟩;exact join_end wk h
   ·exact join_end wk h
  ·rintro v7 h;(conv=>whnf);refine .go ?_;revert h;refine sel_if ?_ ?_<;>intro h
   ·(conv=>whnf);refine .go ?_;refine ⟨_,rfl,?_⟩;exact hK6 _ _ wk h
   ·exact join_end wk h
 ·rintro v1 h;revert h;refine cut_join (fun v11=>⟨AV.d (D.l 1 D.i a0)::AV.d (D.i a1)::X::X::X::AV.d (D.i v1)::dd 25 (AV.d (D.b v11)::dd 12 ([])),nn 44 ([])⟩) ?_ ?_
  ·intro k12 h;refine ⟨a0.length,List.length_map _,?_⟩;revert h;refine sel_if ?_ ?_<;>intro h
   ·obtain ⟨v13,g14,h⟩:=bind_inv h;refine ⟨geti_b (f:=D.i) g14,D.i v13,geti_d (f:=D.i) g14,rfl,?_⟩;exact join_end wk h
   ·exact join_end wk h
  ·rintro v11 h;(conv=>whnf);refine .go ?_;revert h;refine sel_if ?_ ?_<;>intro h
   ·cases h;exact ⟨rfl,rfl⟩
   ·(conv=>whnf);refine dOB (by kernel_rfl) ?_;obtain ⟨v15,g16,h⟩:=bind_inv h;refine ⟨part_b (f:=D.i) g16,_,part_z (f:=D.i) g16,?_⟩;obtain ⟨_,g17,h⟩:=bind_inv h;refine ⟨apnd_b0 (g:=D.i) g17,?_⟩;refine ⟨rfl,?_⟩;obtain ⟨v18,g19,h⟩:=bind_inv h;refine ⟨rfl,apnd_b (f:=D.i) (g:=D.i) g19,_,apnd_z (f:=D.i) g19,?_⟩;obtain ⟨v20,g21,h⟩:=bind_inv h;refine ⟨part_b0 (f:=D.i) g21,_,part_z0 (f:=D.i) g21,?_⟩;obtain ⟨v22,g23,h⟩:=bind_inv h;refine ⟨rfl,apnd_b (f:=D.i) (g:=D.i) g23,_,apnd_z (f:=D.i) g23,?_⟩;(conv=>whnf);refine cOB (by kernel_rfl) ?_;(conv=>whnf);refine .inl ?_;(conv=>whnf);refine .inl ?_;refine ⟨rfl,?_⟩;cases h;exact ⟨rfl,rfl⟩
theorem ref20_Expand_ok {wl:Prop} {a0:Registry} {a1:ByteArray} {r:(List Int)×(List ByteArray)×Int} (h:ref20_Expand a0 a1=some r):CallsOK wl Tryz.prog 17 [AV.d (Registry.toD a0),AV.d (D.s a1)] [] (.tup [.d (D.l 1 D.i r.1),.d (D.l 1 D.s r.2.1),.d (D.i r.2.2)]) []:=by
 refine ok Tryz.f17 (by kernel_rfl) (by kernel_rfl) ⟨rfl,?_⟩;unfold ref20_Expand at h;obtain ⟨v1,g2,h⟩:=bind_inv h;refine ⟨_,_,some [],ref20_Valid_ok g2,?_⟩;(conv=>whnf);refine .go ?_;revert h;refine sel_if ?_ ?_<;>intro h
 ·cases h;exact ⟨rfl,rfl⟩
 ·obtain ⟨⟨v3,v4⟩,g5,h⟩:=bind_inv h;refine ⟨_,_,some [],ref20_find_ok g5,?_⟩;(conv=>whnf);refine .go ?_;revert h;refine sel_if ?_ ?_<;>intro h
  ·cases h;exact ⟨rfl,rfl⟩
  ·refine ⟨_,mapSet_ok (ek:=D.s) (ev:=D.b) (l:=[]) (k:=a1) (v:=true) keyEq_s,?_⟩;revert h;refine cut_join (fun (v6,v7)=>⟨dd 9 (AV.d (D.l 1 D.i v6)::AV.d (D.l 1 D.s v7)::dd 75 ([])),nn 86 ([])⟩) ?_ ?_
   ·intro k8 h;revert h;refine loop_while (fun (v9,v10,v11,v12)=>⟨X::X::AV.ref 2 0::dd 6 (AV.d (D.l 1 D.i v9)::AV.d (D.l 1 D.s v10)::AV.mp 30::AV.own 34 (List.map D.s v12).length::dd 73 ([])),N::N::some (OB.box (Registry.av a0))::nn 27 (some (OB.map 9 4 (entsD D.s D.b v11))::N::N::N::some (OB.row 9 1 (List.map D.s v12) false)::nn 51 ([]))⟩) ?_ ?_
    ·exact wk
    rintro next13 ⟨v9,v10,v11,v12⟩ K14 h hK15;refine ⟨v12.length,by first | exact List.length_map _ | rfl | (simp only [List.length_map];omega),?_⟩;(conv=>whnf);refine .go ?_;revert h;refine sel_if ?_ ?_<;>intro h
    ·revert h;refine cut_join (fun (v16,v17,v18,v19)=>⟨X::X::AV.ref 2 0::dd 6 (AV.d (D.l 1 D.i v16)::AV.d (D.l 1 D.s v17)::AV.mp 30::AV.own 54 (List.map D.s v19).length::dd 73 ([])),N::N::some (OB.box (Registry.av a0))::nn 27 (some (OB.map 9 4 (entsD D.s D.b v18))::nn 23 (some (OB.row 9 1 (List.map D.s v19) false)::nn 31 ([])))⟩) ?_ ?_
     ·intro k20 h;(conv=>whnf);refine dOB (by kernel_rfl) ?_;obtain ⟨v21,g22,h⟩:=bind_inv h;refine ⟨rfl,geti_b (f:=D.s) g22,?_⟩;refine ⟨rfl,D.s v21,(geti_d (f:=D.s) g22),?_⟩;obtain ⟨⟨v23,v24⟩,g25,h⟩:=bind_inv h;refine ⟨_,_,ref20_find_ok g25,.inl rfl,?_⟩;(conv=>whnf);refine cOB (by kernel_rfl) ?_;revert h;refine cut_join (fun v26=>⟨X::X::AV.ref 2 0::dd 6 (AV.d (D.l 1 D.i v9)::AV.d (D.l 1 D.s v26)::AV.mp 30::AV.own 34 (List.map D.s v12).length::AV.ref 13 0::dd 72 ([])),N::N::some (OB.box (Registry.av a0))::nn 10 (some (OB.box (Set.av v23))::nn 16 (some (OB.map 9 4 (entsD D.s D.b v11))::N::N::N::some (OB.row 9 1 (List.map D.s v12) false)::nn 51 ([])))⟩) ?_ ?_
      ·intro k27 h;revert h;refine sel_if ?_ ?_<;>intro h
       ·obtain ⟨v28,g29,h⟩:=bind_inv h;refine ⟨rfl,geti_b (f:=D.s) g29,?_⟩;refine ⟨rfl,D.s v28,(geti_d (f:=D.s) g29),?_⟩;obtain ⟨v30,g31,h⟩:=bind_inv h;refine ⟨_,_,some [],ref20_insertName_ok g31,?_⟩;exact join_end wk h
       ·exact join_end wk h
      ·rintro v26 h;(conv=>whnf);refine .inr (.inr ?_);obtain ⟨v32,g33,h⟩:=bind_inv h;refine ⟨move_b0 (f:=D.s) g33,rfl,_,part_z0 (f:=D.s) g33,?_⟩;refine ⟨v23.ASNs.length,List.length_map _,?_⟩;revert h;refine cut_join (fun v34=>⟨X::X::AV.ref 2 0::dd 6 (AV.d (D.l 1 D.i v34)::AV.d (D.l 1 D.s v26)::AV.mp 30::AV.own 54 (List.map D.s v32).length::AV.ref 13 0::dd 72 ([])),N::N::some (OB.box (Registry.av a0))::nn 10 (some (OB.box (Set.av v23))::nn 16 (some (OB.map 9 4 (entsD D.s D.b v11))::nn 23 (some (OB.row 9 1 (List.map D.s v32) false)::nn 31 ([]))))⟩) ?_ ?_
       ·intro k35 h;revert h;refine loop_for 56 1 D.i rfl (fun i36 v37=>⟨X::X::AV.ref 2 0::dd 6 (AV.d (D.l 1 D.i v37)::AV.d (D.l 1 D.s v26)::AV.mp 30::AV.own 54 (List.map D.s v32).length::AV.ref 13 0::dd 42 (AV.d (D.l 1 D.i v23.ASNs)::AV.d (D.i (v23.ASNs.length:Int))::AV.d (D.i (i36:Int))::dd 27 ([]))),N::N::some (OB.box (Registry.av a0))::nn 10 (some (OB.box (Set.av v23))::nn 16 (some (OB.map 9 4 (entsD D.s D.b v11))::nn 23 (some (OB.row 9 1 (List.map D.s v32) false)::nn 31 ([]))))⟩) ?_ ?_ ?_
        ·exact wk
        ·rintro v37 K38 h;(conv=>whnf);refine .go ?_;(conv=>whnf);refine sel_f lt_f ?_;exact join_end wk h
        ·rintro next39 i36 x40 v37 K38 hii36 hxi36 hwi36 h hK41;(conv=>whnf);refine .go ?_;(conv=>whnf);refine sel_t (lt_t hii36) ?_;(conv=>whnf);refine .go ?_;refine ⟨idx_b (f:=D.i) hii36,D.i x40,hxi36,rfl,?_⟩;obtain ⟨v42,g43,h⟩:=bind_inv h;refine ⟨_,_,some [],ref20_insert_ok g43,?_⟩;refine ⟨_,hwi36,?_⟩;exact hK41 _ _ wk h
       ·rintro v34 h;refine ⟨v23.Sets.length,List.length_map _,?_⟩;revert h;refine cut_join (fun (v44,v45)=>⟨X::X::AV.ref 2 0::dd 6 (AV.d (D.l 1 D.i v34)::AV.d (D.l 1 D.s v26)::AV.mp 30::AV.own 54 (List.map D.s v45).length::dd 73 ([])),N::N::some (OB.box (Registry.av a0))::nn 27 (some (OB.map 9 4 (entsD D.s D.b v44))::nn 23 (some (OB.row 9 1 (List.map D.s v45) false)::nn 31 ([])))⟩) ?_ ?_
        ·intro k46 h;revert h;refine loop_for 67 1 D.s rfl (fun i47 (v48,v49)=>⟨X::X::AV.ref 2 0::dd 6 (AV.d (D.l 1 D.i v34)::AV.d (D.l 1 D.s v26)::AV.mp 30::AV.own 54 (List.map D.s v49).length::dd 54 (AV.d (D.l 1 D.s v23.Sets)::AV.d (D.i (v23.Sets.length:Int))::AV.d (D.i (i47:Int))::dd 16 ([]))),N::N::some (OB.box (Registry.av a0))::nn 27 (some (OB.map 9 4 (entsD D.s D.b v48))::nn 23 (some (OB.row 9 1 (List.map D.s v49) false)::nn 31 ([])))⟩) ?_ ?_ ?_
         ·exact wk
         ·rintro ⟨v48,v49⟩ K50 h;(conv=>whnf);refine .go ?_;(conv=>whnf);refine sel_f lt_f ?_;exact join_end wk h
         ·rintro next51 i47 x52 ⟨v48,v49⟩ K50 hii47 hxi47 hwi47 h hK53;(conv=>whnf);refine .go ?_;(conv=>whnf);refine sel_t (lt_t hii47) ?_;(conv=>whnf);refine .go ?_;refine ⟨idx_b (f:=D.s) hii47,D.s x52,hxi47,rfl,?_⟩;obtain ⟨v54,g55,h⟩:=bind_inv h;refine ⟨_,mapGet_ok (ek:=D.s) (ev:=D.b) (l:=v48) (k:=x52) keyEq_s,D.b v54,mget_dg (z:=false) rfl g55,_,rfl,?_⟩;revert h;refine cut_join (fun (v56,v57)=>⟨X::X::AV.ref 2 0::dd 6 (AV.d (D.l 1 D.i v34)::AV.d (D.l 1 D.s v26)::AV.mp 30::AV.own 54 (List.map D.s v57).length::dd 54 (AV.d (D.l 1 D.s v23.Sets)::AV.d (D.i (v23.Sets.length:Int))::AV.d (D.i (i47:Int))::dd 16 ([]))),N::N::some (OB.box (Registry.av a0))::nn 27 (some (OB.map 9 4 (entsD D.s D.b v56))::nn 23 (some (OB.row 9 1 (List.map D.s v57) false)::nn 31 ([])))⟩) ?_ ?_
          ·intro k58 h;revert h;refine sel_if ?_ ?_<;>intro h
           ·refine ⟨_,mapSet_ok (ek:=D.s) (ev:=D.b) (l:=v48) (k:=x52) (v:=true) keyEq_s,?_⟩;refine ⟨rfl,?_⟩;obtain ⟨v59,g60,h⟩:=bind_inv h;refine ⟨rfl,apnd_b (f:=D.s) (g:=D.s) g60,_,apnd_z (f:=D.s) g60,?_⟩;exact join_end wk h
           ·exact join_end wk h
          ·rintro ⟨v56,v57⟩ h;refine ⟨_,hwi47,?_⟩;exact hK53 _ _ wk h
        ·rintro ⟨v44,v45⟩ h;exact join_end wk h
     ·rintro ⟨v16,v17,v18,v19⟩ h;exact hK15 _ _ (.swap 54 34 rfl rfl rfl wk) h
    ·exact join_end wk h
   ·rintro ⟨v6,v7⟩ h;cases h;exact ⟨rfl,rfl⟩
theorem law20_ints_ok {wl:Prop} {a0:List Int} {a1:List Int} {r:Bool} (h:law20_ints a0 a1=some r):CallsOK wl Tryz.prog 18 [AV.d (D.l 1 D.i a0),AV.d (D.l 1 D.i a1)] [] (.d (D.b r)) []:=by
 refine ok Tryz.f18 (by kernel_rfl) (by kernel_rfl) ⟨rfl,?_⟩;unfold law20_ints at h;refine ⟨a0.length,List.length_map _,?_⟩;refine ⟨a1.length,List.length_map _,?_⟩;(conv=>whnf);refine .go ?_;revert h;refine sel_if ?_ ?_<;>intro h
 ·cases h;exact ⟨rfl,rfl⟩
 ·refine ⟨a0.length,List.length_map _,?_⟩;revert h;refine cut_join (fun _=>⟨dd 26 ([]),nn 26 ([])⟩) ?_ ?_
  ·intro k1 h;revert h;refine loop_for 12 1 D.i rfl (fun i2 _=>⟨X::AV.d (D.l 1 D.i a1)::dd 10 (AV.d (D.l 1 D.i a0)::AV.d (D.i (a0.length:Int))::AV.d (D.i (i2:Int))::dd 11 ([])),nn 26 ([])⟩) ?_ ?_ ?_
   ·exact wk
   ·rintro _ K3 h;(conv=>whnf);refine .go ?_;(conv=>whnf);refine sel_f lt_f ?_;exact join_end wk h
   ·rintro next4 i2 x5 _ K3 hii2 hxi2 hwi2 h hK6;(conv=>whnf);refine .go ?_;(conv=>whnf);refine sel_t (lt_t hii2) ?_;(conv=>whnf);refine .go ?_;refine ⟨idx_b (f:=D.i) hii2,D.i x5,hxi2,rfl,?_⟩;obtain ⟨v7,g8,h⟩:=bind_inv h;refine ⟨geti_b (f:=D.i) g8,D.i v7,geti_d (f:=D.i) g8,rfl,?_⟩;(conv=>whnf);refine .go ?_;revert h;refine sel_if ?_ ?_<;>intro h
    ·cases h;exact ⟨rfl,rfl⟩
    ·refine ⟨_,hwi2,?_⟩;exact hK6 _ _ wk h
  ·rintro _ h;cases h;exact ⟨rfl,rfl⟩
theorem law20_names_ok {wl:Prop} {a0:List ByteArray} {a1:List ByteArray} {r:Bool} (h:law20_names a0 a1=some r):CallsOK wl Tryz.prog 19 [AV.d (D.l 1 D.s a0),AV.d (D.l 1 D.s a1)] [] (.d (D.b r)) []:=by
 refine ok Tryz.f19 (by kernel_rfl) (by kernel_rfl) ⟨rfl,?_⟩;unfold law20_names at h;refine ⟨a0.length,List.length_map _,?_⟩;refine ⟨a1.length,List.length_map _,?_⟩;(conv=>whnf);refine .go ?_;revert h;refine sel_if ?_ ?_<;>intro h
 ·cases h;exact ⟨rfl,rfl⟩
 ·refine ⟨a0.length,List.length_map _,?_⟩;revert h;refine cut_join (fun _=>⟨dd 26 ([]),nn 26 ([])⟩) ?_ ?_
  ·intro k1 h;revert h;refine loop_for 12 1 D.s rfl (fun i2 _=>⟨X::AV.d (D.l 1 D.s a1)::dd 10 (AV.d (D.l 1 D.s a0)::AV.d (D.i (a0.length:Int))::AV.d (D.i (i2:Int))::dd 11 ([])),nn 26 ([])⟩) ?_ ?_ ?_
   ·exact wk
   ·rintro _ K3 h;(conv=>whnf);refine .go ?_;(conv=>whnf);refine sel_f lt_f ?_;exact join_end wk h
   ·rintro next4 i2 x5 _ K3 hii2 hxi2 hwi2 h hK6;(conv=>whnf);refine .go ?_;(conv=>whnf);refine sel_t (lt_t hii2) ?_;(conv=>whnf);refine .go ?_;refine ⟨idx_b (f:=D.s) hii2,D.s x5,hxi2,rfl,?_⟩;obtain ⟨v7,g8,h⟩:=bind_inv h;refine ⟨geti_b (f:=D.s) g8,D.s v7,geti_d (f:=D.s) g8,rfl,?_⟩;(conv=>whnf);refine .go ?_;revert h;refine sel_if ?_ ?_<;>intro h
    ·cases h;exact ⟨rfl,rfl⟩
    ·refine ⟨_,hwi2,?_⟩;exact hK6 _ _ wk h
  ·rintro _ h;cases h;exact ⟨rfl,rfl⟩
theorem law20_IrrExpands_ok {a0:Registry} {a1:ByteArray} {a2:List Int} {a3:Int} {a4:Int} {r:Bool} (h:law20_IrrExpands a0 a1 a2 a3 a4=some r):CallsOK True Tryz.prog 3 [AV.d (Registry.toD a0),AV.d (D.s a1),AV.d (D.l 1 D.i a2),AV.d (D.i a3),AV.d (D.i a4)] [] (.d (D.b r)) []:=by
 refine ok Tryz.f3 (by kernel_rfl) (by kernel_rfl) ⟨rfl,?_⟩;unfold law20_IrrExpands at h;revert h;refine cut_join (fun v1=>⟨X::AV.d (D.s a1)::AV.d (D.l 1 D.i a2)::AV.d (D.i a3)::AV.d (D.i a4)::AV.ref 5 0::dd 23 (AV.d (D.b v1)::dd 64 ([])),nn 5 (some (OB.box (Registry.av a0))::nn 88 ([]))⟩) ?_ ?_
 ·intro k2 h;obtain ⟨v3,g4,h⟩:=bind_inv h;refine ⟨_,_,some [],law20_light_ok g4,?_⟩;revert h;refine sel_if ?_ ?_<;>intro h
  ·exact join_end wk h
  ·exact join_end wk h
 ·rintro v1 h;(conv=>whnf);refine .go ?_;revert h;refine sel_if ?_ ?_<;>intro h
  ·obtain ⟨v5,g6,h⟩:=bind_inv h;refine ⟨_,_,some [],law20_awake_ok g6,?_⟩;cases h;exact ⟨rfl,rfl⟩
  ·obtain ⟨v7,g8,h⟩:=bind_inv h;refine ⟨_,_,some [32],make_New_ok g8,?_⟩;obtain ⟨⟨v9,v10⟩,g11,h⟩:=bind_inv h;refine ⟨_,_,some [],make_Deck_Registry_ok g11,?_⟩;(conv=>whnf);refine dOB (by kernel_rfl) ?_;obtain ⟨v12,g13,h⟩:=bind_inv h;refine ⟨_,_,law20_bent_ok g13,.inl rfl,?_⟩;refine ⟨([a0,v9,v12]:List Registry).length,by first | exact List.length_map _ | rfl | (simp only [List.length_map];omega),?_⟩;(conv=>whnf);refine cOB (by kernel_rfl) ?_;revert h;refine cut_join (fun _=>⟨dd 11 (AV.ref 11 0::dd 82 ([])),nn 11 (some (OB.box (Registry.av v9))::nn 82 ([]))⟩) ?_ ?_
   ·intro k14 h;revert h;refine loop_own 40 25 2 false Registry.toD rfl (fun i15 _=>⟨X::AV.d (D.s a1)::dd 9 (AV.ref 11 0::dd 28 (AV.own 40 (List.map Registry.toD ([a0,v9,v12]:List Registry)).length::AV.d (D.i (([a0,v9,v12]:List Registry).length:Int))::AV.d (D.i (i15:Int))::dd 51 ([]))),nn 11 (some (OB.box (Registry.av v9))::nn 28 (some (OB.row 25 2 (List.map Registry.toD ([a0,v9,v12]:List Registry)) false)::nn 53 ([])))⟩) ?_ ?_ ?_
    ·exact wk
    ·rintro _ K16 h;(conv=>whnf);refine .go ?_;exact join_end wk h
    ·rintro next17 i15 x18 _ K16 hii15 hxi15 hwi15 h hK19;(conv=>whnf);refine .go ?_;(conv=>whnf);refine sel_t (lt_t hii15) ?_;revert h;refine cut_join (fun _=>⟨X::AV.d (D.s a1)::dd 9 (AV.ref 11 0::dd 28 (AV.own 40 (List.map Registry.toD ([a0,v9,v12]:List Registry)).length::AV.d (D.i (([a0,v9,v12]:List Registry).length:Int))::AV.d (D.i (i15:Int))::dd 51 ([]))),nn 11 (some (OB.box (Registry.av v9))::nn 28 (some (OB.row 25 2 (List.map Registry.toD ([a0,v9,v12]:List Registry)) false)::nn 53 ([])))⟩) ?_ ?_
     ·intro k20 h;refine ⟨rfl,idx_b (f:=Registry.toD) hii15,?_⟩;refine ⟨rfl,Registry.toD x18,hxi15,?_⟩;(conv=>whnf);refine dOB (by kernel_rfl) ?_;obtain ⟨v21,g22,h⟩:=bind_inv h;refine ⟨_,_,irr_Valid_ok g22,.inl rfl,?_⟩;obtain ⟨v23,g24,h⟩:=bind_inv h;refine ⟨_,_,ref20_Valid_ok g24,.inl rfl,?_⟩;(conv=>whnf);refine cOB (by kernel_rfl) ?_;(conv=>whnf);refine .go ?_;revert h;refine sel_if ?_ ?_<;>intro h
      ·cases h;exact ⟨rfl,rfl⟩
      ·refine ⟨([a1,(ByteArray.mk (List.toArray (List.cons 65 (List.cons 83 (List.cons 45 (List.cons 65 List.nil)))))),(ByteArray.mk (List.toArray (List.cons 65 (List.cons 83 (List.cons 45 (List.cons 67 List.nil)))))),(ByteArray.mk (List.toArray (List.cons 65 (List.cons 83 (List.cons 45 (List.cons 69 List.nil))))))]:List ByteArray).length,by first | exact List.length_map _ | rfl | (simp only [List.length_map];omega),?_⟩;revert h;refine cut_join (fun _=>⟨X::AV.d (D.s a1)::dd 9 (AV.ref 11 0::dd 28 (AV.own 40 (List.map Registry.toD ([a0,v9,v12]:List Registry)).length::AV.d (D.i (([a0,v9,v12]:List Registry).length:Int))::AV.d (D.i (i15:Int))::dd 51 ([]))),nn 11 (some (OB.box (Registry.av v9))::nn 28 (some (OB.row 25 2 (List.map Registry.toD ([a0,v9,v12]:List Registry)) false)::nn 53 ([])))⟩) ?_ ?_
       ·intro k25 h;revert h;refine loop_own 52 9 1 false D.s rfl (fun i26 _=>⟨X::AV.d (D.s a1)::dd 9 (AV.ref 11 0::X::AV.ref 13 0::dd 26 (AV.own 40 (List.map Registry.toD ([a0,v9,v12]:List Registry)).length::AV.d (D.i (([a0,v9,v12]:List Registry).length:Int))::AV.d (D.i (i15:Int))::dd 9 (AV.own 52 (List.map D.s ([a1,(ByteArray.mk (List.toArray (List.cons 65 (List.cons 83 (List.cons 45 (List.cons 65 List.nil)))))),(ByteArray.mk (List.toArray (List.cons 65 (List.cons 83 (List.cons 45 (List.cons 67 List.nil)))))),(ByteArray.mk (List.toArray (List.cons 65 (List.cons 83 (List.cons 45 (List.cons 69 List.nil))))))]:List ByteArray)).length::AV.d (D.i (([a1,(ByteArray.mk (List.toArray (List.cons 65 (List.cons 83 (List.cons 45 (List.cons 65 List.nil)))))),(ByteArray.mk (List.toArray (List.cons 65 (List.cons 83 (List.cons 45 (List.cons 67 List.nil)))))),(ByteArray.mk (List.toArray (List.cons 65 (List.cons 83 (List.cons 45 (List.cons 69 List.nil))))))]:List ByteArray).length:Int))::AV.d (D.i (i26:Int))::dd 39 ([])))),nn 11 (some (OB.box (Registry.av v9))::N::some (OB.box (Registry.av x18))::nn 26 (some (OB.row 25 2 (List.map Registry.toD ([a0,v9,v12]:List Registry)) false)::nn 11 (some (OB.row 9 1 (List.map D.s ([a1,(ByteArray.mk (List.toArray (List.cons 65 (List.cons 83 (List.cons 45 (List.cons 65 List.nil)))))),(ByteArray.mk (List.toArray (List.cons 65 (List.cons 83 (List.cons 45 (List.cons 67 List.nil)))))),(ByteArray.mk (List.toArray (List.cons 65 (List.cons 83 (List.cons 45 (List.cons 69 List.nil))))))]:List ByteArray)) false)::nn 41 ([]))))⟩) ?_ ?_ ?_
        ·exact wk
        ·rintro _ K27 h;(conv=>whnf);refine .go ?_;exact join_end wk h
        ·rintro next28 i26 x29 _ K27 hii26 hxi26 hwi26 h hK30;(conv=>whnf);refine .go ?_;(conv=>whnf);refine sel_t (lt_t hii26) ?_;(conv=>whnf);refine .go ?_;refine ⟨rfl,idx_b (f:=D.s) hii26,?_⟩;refine ⟨rfl,D.s x29,hxi26,?_⟩;obtain ⟨⟨v31,v32,v33⟩,g34,h⟩:=bind_inv h;refine ⟨_,_,some [],irr_Expand_ok g34,?_⟩;obtain ⟨⟨v35,v36,v37⟩,g38,h⟩:=bind_inv h;refine ⟨_,_,some [],ref20_Expand_ok g38,?_⟩;revert h;refine cut_join (fun v39=>⟨X::AV.d (D.s a1)::dd 9 (AV.ref 11 0::X::AV.ref 13 0::dd 26 (AV.own 40 (List.map Registry.toD ([a0,v9,v12]:List Registry)).length::AV.d (D.i (([a0,v9,v12]:List Registry).length:Int))::AV.d (D.i (i15:Int))::dd 9 (AV.own 52 (List.map D.s ([a1,(ByteArray.mk (List.toArray (List.cons 65 (List.cons 83 (List.cons 45 (List.cons 65 List.nil)))))),(ByteArray.mk (List.toArray (List.cons 65 (List.cons 83 (List.cons 45 (List.cons 67 List.nil)))))),(ByteArray.mk (List.toArray (List.cons 65 (List.cons 83 (List.cons 45 (List.cons 69 List.nil))))))]:List ByteArray)).length::AV.d (D.i (([a1,(ByteArray.mk (List.toArray (List.cons 65 (List.cons 83 (List.cons 45 (List.cons 65 List.nil)))))),(ByteArray.mk (List.toArray (List.cons 65 (List.cons 83 (List.cons 45 (List.cons 67 List.nil)))))),(ByteArray.mk (List.toArray (List.cons 65 (List.cons 83 (List.cons 45 (List.cons 69 List.nil))))))]:List ByteArray).length:Int))::AV.d (D.i (i26:Int))::dd 31 (AV.d (D.b v39)::dd 7 ([]))))),nn 11 (some (OB.box (Registry.av v9))::N::some (OB.box (Registry.av x18))::nn 26 (some (OB.row 25 2 (List.map Registry.toD ([a0,v9,v12]:List Registry)) false)::nn 11 (some (OB.row 9 1 (List.map D.s ([a1,(ByteArray.mk (List.toArray (List.cons 65 (List.cons 83 (List.cons 45 (List.cons 65 List.nil)))))),(ByteArray.mk (List.toArray (List.cons 65 (List.cons 83 (List.cons 45 (List.cons 67 List.nil)))))),(ByteArray.mk (List.toArray (List.cons 65 (List.cons 83 (List.cons 45 (List.cons 69 List.nil))))))]:List ByteArray)) false)::nn 41 ([]))))⟩) ?_ ?_
         ·intro k40 h;obtain ⟨v41,g42,h⟩:=bind_inv h;refine ⟨_,_,some [],law20_ints_ok g42,?_⟩;revert h;refine sel_if ?_ ?_<;>intro h
          ·exact join_end wk h
          ·obtain ⟨v43,g44,h⟩:=bind_inv h;refine ⟨_,_,some [],law20_names_ok g44,?_⟩;revert h;refine sel_if ?_ ?_<;>intro h
           ·exact join_end wk h
           ·exact join_end wk h
         ·rintro v39 h;(conv=>whnf);refine .go ?_;revert h;refine sel_if ?_ ?_<;>intro h
          ·cases h;exact ⟨rfl,rfl⟩
          ·refine ⟨_,hwi26,?_⟩;exact hK30 _ _ wk h
       ·rintro _ h;exact join_end wk h
     ·rintro _ h;refine ⟨_,hwi15,?_⟩;exact hK19 _ _ wk h
   ·rintro _ h;revert h;refine cut_join (fun v45=>⟨dd 10 (AV.d (D.b v45)::dd 83 ([])),nn 94 ([])⟩) ?_ ?_
    ·intro k46 h;obtain ⟨v47,g48,h⟩:=bind_inv h;refine ⟨_,_,some [],irr_Valid_ok g48,?_⟩;revert h;refine sel_if ?_ ?_<;>intro h
     ·obtain ⟨v49,g50,h⟩:=bind_inv h;refine ⟨_,_,some [],law20_awake_ok g50,?_⟩;exact join_end wk h
     ·exact join_end wk h
    ·rintro v45 h;cases h;exact ⟨rfl,rfl⟩
end Go.AX.Q20
end
section
namespace Go.AX.Q20
open Go Go.AX Go.Proofs
set_option maxRecDepth 100000
set_option maxHeartbeats 4000000
set_option linter.unusedVariables false
theorem law20_IrrOrder_ok {a0:List Int} {a1:Int} {r:Bool} (h:law20_IrrOrder a0 a1=some r):CallsOK True Tryz.prog 4 [AV.d (D.l 1 D.i a0),AV.d (D.i a1)] [] (.d (D.b r)) []:=by
 refine ok Tryz.f4 (by kernel_rfl) (by kernel_rfl) ⟨rfl,?_⟩;unfold law20_IrrOrder at h;obtain ⟨v1,g2,h⟩:=bind_inv h;refine ⟨_,_,some [34],make_New_ok g2,?_⟩;obtain ⟨⟨v3,v4⟩,g5,h⟩:=bind_inv h;refine ⟨_,_,some [],make_Deck_Registry_ok g5,?_⟩;refine ⟨v3.Sets.length,List.length_map _,?_⟩;(conv=>whnf);refine .go ?_;revert h;refine sel_if ?_ ?_<;>intro h
 ·obtain ⟨v6,g7,h⟩:=bind_inv h;refine ⟨_,_,some [],law20_awake_ok g7,?_⟩;cases h;exact ⟨rfl,rfl⟩
 ·refine ⟨v3.Sets.length,List.length_map _,?_⟩;obtain ⟨v8,g9,h⟩:=bind_inv h;refine ⟨_,_,some [],make_Mod_ok g9,?_⟩;(conv=>whnf);refine dOB (by kernel_rfl) ?_;obtain ⟨v10,g11,h⟩:=bind_inv h;refine ⟨part_b0 (f:=Set.toD) g11,_,part_z0 (f:=Set.toD) g11,?_⟩;obtain ⟨_,g12,h⟩:=bind_inv h;refine ⟨apnd_b0 (g:=Set.toD) g12,?_⟩;obtain ⟨v13,g14,h⟩:=bind_inv h;refine ⟨part_b (f:=Set.toD) g14,_,part_z (f:=Set.toD) g14,?_⟩;obtain ⟨v15,g16,h⟩:=bind_inv h;refine ⟨rfl,apnd_b (f:=Set.toD) (g:=Set.toD) g16,_,apnd_z (f:=Set.toD) g16,?_⟩;(conv=>whnf);refine cOB (by kernel_rfl) ?_;refine ⟨v15.length,by first | exact List.length_map _ | rfl | (simp only [List.length_map];omega),?_⟩;revert h;refine cut_join (fun v17=>⟨dd 5 (AV.ref 5 0::X::AV.ref 7 0::dd 207 ([])),nn 5 (some (OB.box (Registry.av v3))::N::some (OB.box [AV.own 50 (List.map Set.toD v17).length,AV.d (D.l 6 Object.toD v3.Objects)])::nn 42 (some (OB.row 43 3 (List.map Set.toD v17) false)::nn 164 ([])))⟩) ?_ ?_
  ·intro k18 h;revert h;refine loop_while (fun (v19,v20)=>⟨dd 5 (AV.ref 5 0::X::AV.ref 7 0::dd 52 (AV.own 50 (List.map Set.toD v20).length::AV.d (D.i (v15.length:Int))::AV.d (D.i v19)::dd 152 ([]))),nn 5 (some (OB.box (Registry.av v3))::N::some (OB.box [AV.own 50 (List.map Set.toD v20).length,AV.d (D.l 6 Object.toD v3.Objects)])::nn 42 (some (OB.row 43 3 (List.map Set.toD v20) false)::nn 164 ([])))⟩) ?_ ?_
   ·exact wk
   rintro next21 ⟨v19,v20⟩ K22 h hK23;(conv=>whnf);refine .go ?_;revert h;refine sel_if ?_ ?_<;>intro h
   ·revert h;refine cut_join (fun v24=>⟨dd 5 (AV.ref 5 0::X::AV.ref 7 0::dd 52 (AV.own 50 (List.map Set.toD v24).length::AV.d (D.i (v15.length:Int))::AV.d (D.i v19)::dd 152 ([]))),nn 5 (some (OB.box (Registry.av v3))::N::some (OB.box [AV.own 50 (List.map Set.toD v24).length,AV.d (D.l 6 Object.toD v3.Objects)])::nn 42 (some (OB.row 43 3 (List.map Set.toD v24) false)::nn 164 ([])))⟩) ?_ ?_
    ·intro k25 h;obtain ⟨v26,g27,h⟩:=bind_inv h;refine ⟨rfl,geti_b (f:=Set.toD) g27,?_⟩;refine ⟨rfl,Set.toD v26,(geti_d (f:=Set.toD) g27),?_⟩;refine ⟨v26.Sets.length,List.length_map _,?_⟩;revert h;refine cut_join (fun v28=>⟨dd 5 (AV.ref 5 0::X::AV.ref 7 0::AV.d (D.i v19)::AV.ref 9 0::AV.ref 10 0::dd 49 (AV.own 50 (List.map Set.toD v20).length::AV.d (D.i (v15.length:Int))::AV.d (D.i v19)::dd 152 ([]))),nn 5 (some (OB.box (Registry.av v3))::N::some (OB.box [AV.own 50 (List.map Set.toD v20).length,AV.d (D.l 6 Object.toD v3.Objects)])::N::some (OB.box (Set.av v26))::some (OB.box [AV.d (D.s v26.Name),AV.d (D.nil 1),AV.own 89 (List.map D.s v28).length])::nn 39 (some (OB.row 43 3 (List.map Set.toD v20) false)::nn 38 (some (OB.row 9 1 (List.map D.s v28) false)::nn 125 ([]))))⟩) ?_ ?_
     ·intro k29 h;revert h;refine loop_for 71 1 D.s rfl (fun i30 v31=>⟨dd 5 (AV.ref 5 0::X::AV.ref 7 0::AV.d (D.i v19)::AV.ref 9 0::AV.ref 10 0::dd 49 (AV.own 50 (List.map Set.toD v20).length::AV.d (D.i (v15.length:Int))::AV.d (D.i v19)::dd 8 (AV.d (D.l 1 D.s v26.Sets)::AV.d (D.i (v26.Sets.length:Int))::AV.d (D.i (i30:Int))::dd 141 ([])))),nn 5 (some (OB.box (Registry.av v3))::N::some (OB.box [AV.own 50 (List.map Set.toD v20).length,AV.d (D.l 6 Object.toD v3.Objects)])::N::some (OB.box (Set.av v26))::some (OB.box [AV.d (D.s v26.Name),AV.d (D.nil 1),AV.own 89 (List.map D.s v31).length])::nn 39 (some (OB.row 43 3 (List.map Set.toD v20) false)::nn 38 (some (OB.row 9 1 (List.map D.s v31) false)::nn 125 ([]))))⟩) ?_ ?_ ?_
      ·exact wk
      ·rintro v31 K32 h;(conv=>whnf);refine .go ?_;(conv=>whnf);refine sel_f lt_f ?_;exact join_end wk h
      ·rintro next33 i30 x34 v31 K32 hii30 hxi30 hwi30 h hK35;(conv=>whnf);refine .go ?_;(conv=>whnf);refine sel_t (lt_t hii30) ?_;(conv=>whnf);refine .go ?_;(conv=>whnf);refine dOB (by kernel_rfl) ?_;refine ⟨v26.Sets.length,List.length_map _,?_⟩;refine ⟨_,rfl,?_⟩;refine ⟨_,rfl,?_⟩;obtain ⟨v36,g37,h⟩:=bind_inv h;refine ⟨geti_b (f:=D.s) g37,D.s v36,geti_d (f:=D.s) g37,rfl,?_⟩;refine ⟨rfl,?_⟩;obtain ⟨v38,g39,h⟩:=bind_inv h;refine ⟨rfl,apnd_b (f:=D.s) (g:=D.s) g39,_,apnd_z (f:=D.s) g39,?_⟩;(conv=>whnf);refine cOB (by kernel_rfl) ?_;refine ⟨_,hwi30,?_⟩;exact hK35 _ _ wk h
     ·rintro v28 h;refine ⟨v26.ASNs.length,List.length_map _,?_⟩;revert h;refine cut_join (fun v40=>⟨dd 5 (AV.ref 5 0::X::AV.ref 7 0::AV.d (D.i v19)::X::AV.ref 10 0::dd 49 (AV.own 50 (List.map Set.toD v20).length::AV.d (D.i (v15.length:Int))::AV.d (D.i v19)::dd 152 ([]))),nn 5 (some (OB.box (Registry.av v3))::N::some (OB.box [AV.own 50 (List.map Set.toD v20).length,AV.d (D.l 6 Object.toD v3.Objects)])::N::N::some (OB.box [AV.d (D.s v26.Name),AV.own 111 (List.map D.i v40).length,AV.own 89 (List.map D.s v28).length])::nn 39 (some (OB.row 43 3 (List.map Set.toD v20) false)::nn 38 (some (OB.row 9 1 (List.map D.s v28) false)::nn 21 (some (OB.row 3 1 (List.map D.i v40) false)::nn 103 ([])))))⟩) ?_ ?_
      ·intro k41 h;revert h;refine loop_for 93 1 D.i rfl (fun i42 v43=>⟨dd 5 (AV.ref 5 0::X::AV.ref 7 0::AV.d (D.i v19)::AV.ref 9 0::AV.ref 10 0::dd 49 (AV.own 50 (List.map Set.toD v20).length::AV.d (D.i (v15.length:Int))::AV.d (D.i v19)::dd 30 (AV.d (D.l 1 D.i v26.ASNs)::AV.d (D.i (v26.ASNs.length:Int))::AV.d (D.i (i42:Int))::dd 119 ([])))),nn 5 (some (OB.box (Registry.av v3))::N::some (OB.box [AV.own 50 (List.map Set.toD v20).length,AV.d (D.l 6 Object.toD v3.Objects)])::N::some (OB.box (Set.av v26))::some (OB.box [AV.d (D.s v26.Name),AV.own 111 (List.map D.i v43).length,AV.own 89 (List.map D.s v28).length])::nn 39 (some (OB.row 43 3 (List.map Set.toD v20) false)::nn 38 (some (OB.row 9 1 (List.map D.s v28) false)::nn 21 (some (OB.row 3 1 (List.map D.i v43) false)::nn 103 ([])))))⟩) ?_ ?_ ?_
       ·exact wk
       ·rintro v43 K44 h;(conv=>whnf);refine .go ?_;(conv=>whnf);refine sel_f lt_f ?_;exact join_end wk h
       ·rintro next45 i42 x46 v43 K44 hii42 hxi42 hwi42 h hK47;(conv=>whnf);refine .go ?_;(conv=>whnf);refine sel_t (lt_t hii42) ?_;(conv=>whnf);refine .go ?_;(conv=>whnf);refine dOB (by kernel_rfl) ?_;refine ⟨v26.ASNs.length,List.length_map _,?_⟩;refine ⟨_,rfl,?_⟩;refine ⟨_,rfl,?_⟩;obtain ⟨v48,g49,h⟩:=bind_inv h;refine ⟨geti_b (f:=D.i) g49,D.i v48,geti_d (f:=D.i) g49,rfl,?_⟩;refine ⟨rfl,?_⟩;obtain ⟨v50,g51,h⟩:=bind_inv h;refine ⟨rfl,apnd_b (f:=D.i) (g:=D.i) g51,_,apnd_z (f:=D.i) g51,?_⟩;(conv=>whnf);refine cOB (by kernel_rfl) ?_;refine ⟨_,hwi42,?_⟩;exact hK47 _ _ wk h
      ·rintro v40 h;obtain ⟨v52,g53,h⟩:=bind_inv h;refine ⟨rfl,geti_b (f:=Set.toD) g53,?_⟩;obtain ⟨v54,g55,h⟩:=bind_inv h;have g55l:=seti_len g55;refine ⟨rfl,?_⟩;refine ⟨rfl,?_⟩;refine ⟨rfl,rfl,Set.toD v52,(geti_d (f:=Set.toD) g53),?_⟩;refine ⟨_,seti_z (f:=Set.toD) g55,?_⟩;exact join_end wk h
    ·rintro v24 h;refine ⟨_,rfl,?_⟩;exact hK23 _ _ wk h
   ·exact join_end wk h
  ·rintro v17 h;refine ⟨v3.Sets.length,List.length_map _,?_⟩;revert h;refine cut_join (fun _=>⟨dd 215 ([]),nn 215 ([])⟩) ?_ ?_
   ·intro k56 h;revert h;refine loop_for 121 3 Set.toD rfl (fun i57 _=>⟨dd 5 (AV.ref 5 0::X::AV.ref 7 0::dd 113 (AV.d (D.l 3 Set.toD v3.Sets)::AV.d (D.i (v3.Sets.length:Int))::AV.d (D.i (i57:Int))::dd 91 ([]))),nn 5 (some (OB.box (Registry.av v3))::N::some (OB.box [AV.own 50 (List.map Set.toD v17).length,AV.d (D.l 6 Object.toD v3.Objects)])::nn 42 (some (OB.row 43 3 (List.map Set.toD v17) true)::nn 164 ([])))⟩) ?_ ?_ ?_
    ·exact wk
    ·rintro _ K58 h;(conv=>whnf);refine .go ?_;(conv=>whnf);refine sel_f lt_f ?_;exact join_end wk h
    ·rintro next59 i57 x60 _ K58 hii57 hxi57 hwi57 h hK61;(conv=>whnf);refine .go ?_;(conv=>whnf);refine sel_t (lt_t hii57) ?_;revert h;refine cut_join (fun _=>⟨dd 5 (AV.ref 5 0::X::AV.ref 7 0::dd 113 (AV.d (D.l 3 Set.toD v3.Sets)::AV.d (D.i (v3.Sets.length:Int))::AV.d (D.i (i57:Int))::dd 91 ([]))),nn 5 (some (OB.box (Registry.av v3))::N::some (OB.box [AV.own 50 (List.map Set.toD v17).length,AV.d (D.l 6 Object.toD v3.Objects)])::nn 42 (some (OB.row 43 3 (List.map Set.toD v17) true)::nn 164 ([])))⟩) ?_ ?_
     ·intro k62 h;refine ⟨idx_b (f:=Set.toD) hii57,Set.toD x60,hxi57,rfl,?_⟩;obtain ⟨⟨v63,v64,v65⟩,g66,h⟩:=bind_inv h;refine ⟨_,_,some [],irr_Expand_ok g66,?_⟩;refine ⟨rfl,?_⟩;obtain ⟨⟨v67,v68,v69⟩,g70,h⟩:=bind_inv h;refine ⟨_,_,some [],irr_Expand_ok g70,?_⟩;revert h;refine cut_join (fun v71=>⟨dd 5 (AV.ref 5 0::X::AV.ref 7 0::dd 6 (AV.ref 14 0::AV.d (D.l 1 D.i v63)::dd 105 (AV.d (D.l 3 Set.toD v3.Sets)::AV.d (D.i (v3.Sets.length:Int))::AV.d (D.i (i57:Int))::dd 36 (AV.d (D.b v71)::dd 54 ([]))))),nn 5 (some (OB.box (Registry.av v3))::N::some (OB.box [AV.own 50 (List.map Set.toD v17).length,AV.d (D.l 6 Object.toD v3.Objects)])::nn 6 (some (OB.box (Set.av x60))::nn 35 (some (OB.row 43 3 (List.map Set.toD v17) true)::nn 164 ([]))))⟩) ?_ ?_
      ·intro k72 h;revert h;refine sel_if ?_ ?_<;>intro h
       ·exact join_end wk h
       ·revert h;refine sel_if ?_ ?_<;>intro h
        ·exact join_end wk h
        ·obtain ⟨v73,g74,h⟩:=bind_inv h;refine ⟨_,_,some [],law20_ints_ok g74,?_⟩;revert h;refine sel_if ?_ ?_<;>intro h
         ·exact join_end wk h
         ·obtain ⟨v75,g76,h⟩:=bind_inv h;refine ⟨_,_,some [],law20_names_ok g76,?_⟩;exact join_end wk h
      ·rintro v71 h;(conv=>whnf);refine .go ?_;revert h;refine sel_if ?_ ?_<;>intro h
       ·cases h;exact ⟨rfl,rfl⟩
       ·refine ⟨v63.length,List.length_map _,?_⟩;revert h;refine cut_join (fun v77=>⟨dd 5 (AV.ref 5 0::X::AV.ref 7 0::dd 6 (AV.ref 14 0::dd 6 (AV.mp 161::dd 99 (AV.d (D.l 3 Set.toD v3.Sets)::AV.d (D.i (v3.Sets.length:Int))::AV.d (D.i (i57:Int))::dd 91 ([]))))),nn 5 (some (OB.box (Registry.av v3))::N::some (OB.box [AV.own 50 (List.map Set.toD v17).length,AV.d (D.l 6 Object.toD v3.Objects)])::nn 6 (some (OB.box (Set.av x60))::nn 35 (some (OB.row 43 3 (List.map Set.toD v17) true)::nn 110 (some (OB.map 3 4 (entsD D.i D.b v77))::nn 53 ([])))))⟩) ?_ ?_
        ·intro k78 h;revert h;refine loop_for 162 1 D.i rfl (fun i79 v80=>⟨dd 5 (AV.ref 5 0::X::AV.ref 7 0::dd 6 (AV.ref 14 0::dd 6 (AV.mp 161::dd 99 (AV.d (D.l 3 Set.toD v3.Sets)::AV.d (D.i (v3.Sets.length:Int))::AV.d (D.i (i57:Int))::dd 38 (AV.d (D.l 1 D.i v63)::AV.d (D.i (v63.length:Int))::AV.d (D.i (i79:Int))::dd 50 ([])))))),nn 5 (some (OB.box (Registry.av v3))::N::some (OB.box [AV.own 50 (List.map Set.toD v17).length,AV.d (D.l 6 Object.toD v3.Objects)])::nn 6 (some (OB.box (Set.av x60))::nn 35 (some (OB.row 43 3 (List.map Set.toD v17) true)::nn 110 (some (OB.map 3 4 (entsD D.i D.b v80))::nn 53 ([])))))⟩) ?_ ?_ ?_
         ·exact wk
         ·rintro v80 K81 h;(conv=>whnf);refine .go ?_;(conv=>whnf);refine sel_f lt_f ?_;exact join_end wk h
         ·rintro next82 i79 x83 v80 K81 hii79 hxi79 hwi79 h hK84;(conv=>whnf);refine .go ?_;(conv=>whnf);refine sel_t (lt_t hii79) ?_;(conv=>whnf);refine .go ?_;refine ⟨idx_b (f:=D.i) hii79,D.i x83,hxi79,rfl,?_⟩;refine ⟨_,mapSet_ok (ek:=D.i) (ev:=D.b) (l:=v80) (k:=x83) (v:=true) keyEq_i,?_⟩;refine ⟨_,hwi79,?_⟩;exact hK84 _ _ wk h
        ·rintro v77 h;refine ⟨x60.ASNs.length,List.length_map _,?_⟩;revert h;refine cut_join (fun _=>⟨dd 5 (AV.ref 5 0::X::AV.ref 7 0::dd 6 (AV.ref 14 0::dd 6 (AV.mp 161::dd 99 (AV.d (D.l 3 Set.toD v3.Sets)::AV.d (D.i (v3.Sets.length:Int))::AV.d (D.i (i57:Int))::dd 91 ([]))))),nn 5 (some (OB.box (Registry.av v3))::N::some (OB.box [AV.own 50 (List.map Set.toD v17).length,AV.d (D.l 6 Object.toD v3.Objects)])::nn 6 (some (OB.box (Set.av x60))::nn 35 (some (OB.row 43 3 (List.map Set.toD v17) true)::nn 110 (some (OB.map 3 4 (entsD D.i D.b v77))::nn 53 ([])))))⟩) ?_ ?_
         ·intro k85 h;revert h;refine loop_for 172 1 D.i rfl (fun i86 _=>⟨dd 5 (AV.ref 5 0::X::AV.ref 7 0::dd 6 (AV.ref 14 0::dd 6 (AV.mp 161::dd 99 (AV.d (D.l 3 Set.toD v3.Sets)::AV.d (D.i (v3.Sets.length:Int))::AV.d (D.i (i57:Int))::dd 48 (AV.d (D.l 1 D.i x60.ASNs)::AV.d (D.i (x60.ASNs.length:Int))::AV.d (D.i (i86:Int))::dd 40 ([])))))),nn 5 (some (OB.box (Registry.av v3))::N::some (OB.box [AV.own 50 (List.map Set.toD v17).length,AV.d (D.l 6 Object.toD v3.Objects)])::nn 6 (some (OB.box (Set.av x60))::nn 35 (some (OB.row 43 3 (List.map Set.toD v17) true)::nn 110 (some (OB.map 3 4 (entsD D.i D.b v77))::nn 53 ([])))))⟩) ?_ ?_ ?_
          ·exact wk
          ·rintro _ K87 h;(conv=>whnf);refine .go ?_;(conv=>whnf);refine sel_f lt_f ?_;exact join_end wk h
          ·rintro next88 i86 x89 _ K87 hii86 hxi86 hwi86 h hK90;(conv=>whnf);refine .go ?_;(conv=>whnf);refine sel_t (lt_t hii86) ?_;(conv=>whnf);refine .go ?_;refine ⟨idx_b (f:=D.i) hii86,D.i x89,hxi86,rfl,?_⟩;obtain ⟨v91,g92,h⟩:=bind_inv h;refine ⟨_,mapGet_ok (ek:=D.i) (ev:=D.b) (l:=v77) (k:=x89) keyEq_i,D.b v91,mget_dg (z:=false) rfl g92,_,rfl,?_⟩;(conv=>whnf);refine .go ?_;revert h;refine sel_if ?_ ?_<;>intro h
           ·cases h;exact ⟨rfl,rfl⟩
           ·refine ⟨_,hwi86,?_⟩;exact hK90 _ _ wk h
         ·rintro _ h;refine ⟨x60.Sets.length,List.length_map _,?_⟩;revert h;refine cut_join (fun _=>⟨dd 5 (AV.ref 5 0::X::AV.ref 7 0::dd 113 (AV.d (D.l 3 Set.toD v3.Sets)::AV.d (D.i (v3.Sets.length:Int))::AV.d (D.i (i57:Int))::dd 91 ([]))),nn 5 (some (OB.box (Registry.av v3))::N::some (OB.box [AV.own 50 (List.map Set.toD v17).length,AV.d (D.l 6 Object.toD v3.Objects)])::nn 42 (some (OB.row 43 3 (List.map Set.toD v17) true)::nn 164 ([])))⟩) ?_ ?_
          ·intro k93 h;revert h;refine loop_for 184 1 D.s rfl (fun i94 _=>⟨dd 5 (AV.ref 5 0::X::AV.ref 7 0::dd 13 (AV.mp 161::dd 99 (AV.d (D.l 3 Set.toD v3.Sets)::AV.d (D.i (v3.Sets.length:Int))::AV.d (D.i (i57:Int))::dd 60 (AV.d (D.l 1 D.s x60.Sets)::AV.d (D.i (x60.Sets.length:Int))::AV.d (D.i (i94:Int))::dd 28 ([]))))),nn 5 (some (OB.box (Registry.av v3))::N::some (OB.box [AV.own 50 (List.map Set.toD v17).length,AV.d (D.l 6 Object.toD v3.Objects)])::nn 42 (some (OB.row 43 3 (List.map Set.toD v17) true)::nn 110 (some (OB.map 3 4 (entsD D.i D.b v77))::nn 53 ([]))))⟩) ?_ ?_ ?_
           ·exact wk
           ·rintro _ K95 h;(conv=>whnf);refine .go ?_;(conv=>whnf);refine sel_f lt_f ?_;exact join_end wk h
           ·rintro next96 i94 x97 _ K95 hii94 hxi94 hwi94 h hK98;(conv=>whnf);refine .go ?_;(conv=>whnf);refine sel_t (lt_t hii94) ?_;revert h;refine cut_join (fun _=>⟨dd 5 (AV.ref 5 0::X::AV.ref 7 0::dd 13 (AV.mp 161::dd 99 (AV.d (D.l 3 Set.toD v3.Sets)::AV.d (D.i (v3.Sets.length:Int))::AV.d (D.i (i57:Int))::dd 60 (AV.d (D.l 1 D.s x60.Sets)::AV.d (D.i (x60.Sets.length:Int))::AV.d (D.i (i94:Int))::dd 28 ([]))))),nn 5 (some (OB.box (Registry.av v3))::N::some (OB.box [AV.own 50 (List.map Set.toD v17).length,AV.d (D.l 6 Object.toD v3.Objects)])::nn 42 (some (OB.row 43 3 (List.map Set.toD v17) true)::nn 110 (some (OB.map 3 4 (entsD D.i D.b v77))::nn 53 ([]))))⟩) ?_ ?_
            ·intro k99 h;refine ⟨idx_b (f:=D.s) hii94,D.s x97,hxi94,rfl,?_⟩;obtain ⟨⟨v100,v101,v102⟩,g103,h⟩:=bind_inv h;refine ⟨_,_,some [],irr_Expand_ok g103,?_⟩;refine ⟨v100.length,List.length_map _,?_⟩;revert h;refine cut_join (fun _=>⟨dd 5 (AV.ref 5 0::X::AV.ref 7 0::dd 13 (AV.mp 161::dd 99 (AV.d (D.l 3 Set.toD v3.Sets)::AV.d (D.i (v3.Sets.length:Int))::AV.d (D.i (i57:Int))::dd 60 (AV.d (D.l 1 D.s x60.Sets)::AV.d (D.i (x60.Sets.length:Int))::AV.d (D.i (i94:Int))::dd 28 ([]))))),nn 5 (some (OB.box (Registry.av v3))::N::some (OB.box [AV.own 50 (List.map Set.toD v17).length,AV.d (D.l 6 Object.toD v3.Objects)])::nn 42 (some (OB.row 43 3 (List.map Set.toD v17) true)::nn 110 (some (OB.map 3 4 (entsD D.i D.b v77))::nn 53 ([]))))⟩) ?_ ?_
             ·intro k104 h;revert h;refine loop_for 197 1 D.i rfl (fun i105 _=>⟨dd 5 (AV.ref 5 0::X::AV.ref 7 0::dd 13 (AV.mp 161::dd 8 (AV.d (D.i v102)::dd 90 (AV.d (D.l 3 Set.toD v3.Sets)::AV.d (D.i (v3.Sets.length:Int))::AV.d (D.i (i57:Int))::dd 60 (AV.d (D.l 1 D.s x60.Sets)::AV.d (D.i (x60.Sets.length:Int))::AV.d (D.i (i94:Int))::dd 10 (AV.d (D.l 1 D.i v100)::AV.d (D.i (v100.length:Int))::AV.d (D.i (i105:Int))::dd 15 ([]))))))),nn 5 (some (OB.box (Registry.av v3))::N::some (OB.box [AV.own 50 (List.map Set.toD v17).length,AV.d (D.l 6 Object.toD v3.Objects)])::nn 42 (some (OB.row 43 3 (List.map Set.toD v17) true)::nn 110 (some (OB.map 3 4 (entsD D.i D.b v77))::nn 53 ([]))))⟩) ?_ ?_ ?_
              ·exact wk
              ·rintro _ K106 h;(conv=>whnf);refine .go ?_;(conv=>whnf);refine sel_f lt_f ?_;exact join_end wk h
              ·rintro next107 i105 x108 _ K106 hii105 hxi105 hwi105 h hK109;(conv=>whnf);refine .go ?_;(conv=>whnf);refine sel_t (lt_t hii105) ?_;(conv=>whnf);refine .go ?_;refine ⟨idx_b (f:=D.i) hii105,D.i x108,hxi105,rfl,?_⟩;revert h;refine cut_join (fun v110=>⟨dd 5 (AV.ref 5 0::X::AV.ref 7 0::dd 13 (AV.mp 161::dd 8 (AV.d (D.i v102)::dd 90 (AV.d (D.l 3 Set.toD v3.Sets)::AV.d (D.i (v3.Sets.length:Int))::AV.d (D.i (i57:Int))::dd 60 (AV.d (D.l 1 D.s x60.Sets)::AV.d (D.i (x60.Sets.length:Int))::AV.d (D.i (i94:Int))::dd 10 (AV.d (D.l 1 D.i v100)::AV.d (D.i (v100.length:Int))::AV.d (D.i (i105:Int))::dd 10 (AV.d (D.b v110)::dd 4 ([])))))))),nn 5 (some (OB.box (Registry.av v3))::N::some (OB.box [AV.own 50 (List.map Set.toD v17).length,AV.d (D.l 6 Object.toD v3.Objects)])::nn 42 (some (OB.row 43 3 (List.map Set.toD v17) true)::nn 110 (some (OB.map 3 4 (entsD D.i D.b v77))::nn 53 ([]))))⟩) ?_ ?_
               ·intro k111 h;revert h;refine sel_if ?_ ?_<;>intro h
                ·obtain ⟨v112,g113,h⟩:=bind_inv h;refine ⟨_,mapGet_ok (ek:=D.i) (ev:=D.b) (l:=v77) (k:=x108) keyEq_i,D.b v112,mget_dg (z:=false) rfl g113,_,rfl,?_⟩;exact join_end wk h
                ·exact join_end wk h
               ·rintro v110 h;(conv=>whnf);refine .go ?_;revert h;refine sel_if ?_ ?_<;>intro h
                ·cases h;exact ⟨rfl,rfl⟩
                ·refine ⟨_,hwi105,?_⟩;exact hK109 _ _ wk h
             ·rintro _ h;exact join_end wk h
            ·rintro _ h;refine ⟨_,hwi94,?_⟩;exact hK98 _ _ wk h
          ·rintro _ h;exact join_end wk h
     ·rintro _ h;refine ⟨_,hwi57,?_⟩;exact hK61 _ _ wk h
   ·rintro _ h;obtain ⟨v114,g115,h⟩:=bind_inv h;refine ⟨_,_,some [],law20_awake_ok g115,?_⟩;cases h;exact ⟨rfl,rfl⟩
theorem slices_Clone_api_Object_api_Object_ok {wl:Prop} {a0:List Object} {r:(List Object)} (h:slices_Clone_api_Object_api_Object a0=some r):CallsOK wl Tryz.prog 59 [AV.d (D.l 6 Object.toD a0)] [] (AV.own 0 (List.map Object.toD r).length) [.row 55 6 (List.map Object.toD r) false]:=by
 refine ok Tryz.f59 (by kernel_rfl) (by kernel_rfl) ⟨rfl,?_⟩;unfold slices_Clone_api_Object_api_Object at h;refine ⟨?_,fun hz=>?_⟩
 ·(conv=>whnf);refine .go ?_;obtain ⟨v1,g2,h⟩:=bind_inv h;refine ⟨rfl,apnd_b (f:=Object.toD) (g:=Object.toD) g2,_,apnd_z (f:=Object.toD) g2,?_⟩;(conv=>whnf);refine .inl ?_;(conv=>whnf);refine .inr ?_;cases h;exact ⟨rfl,rfl⟩
 ·obtain rfl:a0=[]:=(by simpa using hz);replace h:=nil_conv h;(conv=>whnf);refine .go ?_;(conv=>whnf);refine .inr ⟨Nat.le_of_ble_eq_true rfl,55,?_⟩;cases h;exact ⟨rfl,rfl⟩
theorem cmp_Or_int_ok {wl:Prop} {a0:List Int} {r:Int} (h:cmp_Or_int a0=some r):CallsOK wl Tryz.prog 97 [AV.d (D.l 1 D.i a0)] [] (.d (D.i r)) []:=by
 refine ok Tryz.f97 (by kernel_rfl) (by kernel_rfl) ⟨rfl,?_⟩;unfold cmp_Or_int at h;refine ⟨a0.length,List.length_map _,?_⟩;revert h;refine cut_join (fun _=>⟨X::X::X::AV.d (D.i 0)::dd 14 ([]),nn 18 ([])⟩) ?_ ?_
 ·intro k1 h;revert h;refine loop_for 6 1 D.i rfl (fun i2 _=>⟨X::X::X::AV.d (D.i 0)::X::X::AV.d (D.l 1 D.i a0)::AV.d (D.i (a0.length:Int))::AV.d (D.i (i2:Int))::dd 9 ([]),nn 18 ([])⟩) ?_ ?_ ?_
  ·exact wk
  ·rintro _ K3 h;(conv=>whnf);refine .go ?_;(conv=>whnf);refine sel_f lt_f ?_;exact join_end wk h
  ·rintro next4 i2 x5 _ K3 hii2 hxi2 hwi2 h hK6;(conv=>whnf);refine .go ?_;(conv=>whnf);refine sel_t (lt_t hii2) ?_;(conv=>whnf);refine .go ?_;refine ⟨idx_b (f:=D.i) hii2,D.i x5,hxi2,rfl,?_⟩;(conv=>whnf);refine .go ?_;revert h;refine sel_if ?_ ?_<;>intro h
   ·cases h;exact ⟨rfl,rfl⟩
   ·refine ⟨_,hwi2,?_⟩;exact hK6 _ _ wk h
 ·rintro _ h;cases h;exact ⟨rfl,rfl⟩
theorem cmp_isNaN_int_ok {wl:Prop} {a0:Int} {r:Bool} (h:cmp_isNaN_int a0=some r):CallsOK wl Tryz.prog 137 [AV.d (D.i a0)] [] (.d (D.b r)) []:=by
 refine ok Tryz.f137 (by kernel_rfl) (by kernel_rfl) ⟨rfl,?_⟩;unfold cmp_isNaN_int at h;cases h;exact ⟨rfl,rfl⟩
theorem cmp_Compare_int_ok {wl:Prop} {a0:Int} {a1:Int} {r:Int} (h:cmp_Compare_int a0 a1=some r):CallsOK wl Tryz.prog 99 [AV.d (D.i a0),AV.d (D.i a1)] [] (.d (D.i r)) []:=by
 refine ok Tryz.f99 (by kernel_rfl) (by kernel_rfl) ⟨rfl,?_⟩;unfold cmp_Compare_int at h;obtain ⟨v1,g2,h⟩:=bind_inv h;refine ⟨_,_,some [],cmp_isNaN_int_ok g2,?_⟩;obtain ⟨v3,g4,h⟩:=bind_inv h;refine ⟨_,_,some [],cmp_isNaN_int_ok g4,?_⟩;(conv=>whnf);refine .go ?_;revert h;refine sel_if ?_ ?_<;>intro h
 ·(conv=>whnf);refine .go ?_;revert h;refine sel_if ?_ ?_<;>intro h
  ·cases h;exact ⟨rfl,rfl⟩
  ·cases h;exact ⟨rfl,rfl⟩
 ·(conv=>whnf);refine .go ?_;revert h;refine sel_if ?_ ?_<;>intro h
  ·cases h;exact ⟨rfl,rfl⟩
  ·(conv=>whnf);refine .go ?_;revert h;refine sel_if ?_ ?_<;>intro h
   ·cases h;exact ⟨rfl,rfl⟩
   ·(conv=>whnf);refine .go ?_;revert h;refine sel_if ?_ ?_<;>intro h
    ·cases h;exact ⟨rfl,rfl⟩
    ·cases h;exact ⟨rfl,rfl⟩
theorem addr_family_ok {wl:Prop} {a0:Addr} {r:Int} (h:addr_family a0=some r):CallsOK wl Tryz.prog 155 [AV.d (Addr.toD a0)] [] (.d (D.i r)) []:=by
 refine ok Tryz.f155 (by kernel_rfl) (by kernel_rfl) ⟨rfl,?_⟩;unfold addr_family at h;(conv=>whnf);refine .go ?_;revert h;refine sel_if ?_ ?_<;>intro h
 ·cases h;exact ⟨rfl,rfl⟩
 ·cases h;exact ⟨rfl,rfl⟩
theorem cmp_isNaN_uint64_ok {wl:Prop} {a0:UInt64} {r:Bool} (h:cmp_isNaN_uint64 a0=some r):CallsOK wl Tryz.prog 163 [AV.d (D.u64 a0)] [] (.d (D.b r)) []:=by
 refine ok Tryz.f163 (by kernel_rfl) (by kernel_rfl) ⟨rfl,?_⟩;unfold cmp_isNaN_uint64 at h;cases h;exact ⟨rfl,rfl⟩
theorem cmp_Compare_uint64_ok {wl:Prop} {a0:UInt64} {a1:UInt64} {r:Int} (h:cmp_Compare_uint64 a0 a1=some r):CallsOK wl Tryz.prog 156 [AV.d (D.u64 a0),AV.d (D.u64 a1)] [] (.d (D.i r)) []:=by
 refine ok Tryz.f156 (by kernel_rfl) (by kernel_rfl) ⟨rfl,?_⟩;unfold cmp_Compare_uint64 at h;obtain ⟨v1,g2,h⟩:=bind_inv h;refine ⟨_,_,some [],cmp_isNaN_uint64_ok g2,?_⟩;obtain ⟨v3,g4,h⟩:=bind_inv h;refine ⟨_,_,some [],cmp_isNaN_uint64_ok g4,?_⟩;(conv=>whnf);refine .go ?_;revert h;refine sel_if ?_ ?_<;>intro h
 ·(conv=>whnf);refine .go ?_;revert h;refine sel_if ?_ ?_<;>intro h
  ·cases h;exact ⟨rfl,rfl⟩
  ·cases h;exact ⟨rfl,rfl⟩
 ·(conv=>whnf);refine .go ?_;revert h;refine sel_if ?_ ?_<;>intro h
  ·cases h;exact ⟨rfl,rfl⟩
  ·(conv=>whnf);refine .go ?_;revert h;refine sel_if ?_ ?_<;>intro h
   ·cases h;exact ⟨rfl,rfl⟩
   ·(conv=>whnf);refine .go ?_;revert h;refine sel_if ?_ ?_<;>intro h
    ·cases h;exact ⟨rfl,rfl⟩
    ·cases h;exact ⟨rfl,rfl⟩
theorem addr_Cmp_ok {wl:Prop} {a0:Addr} {a1:Addr} {r:Int} (h:addr_Cmp a0 a1=some r):CallsOK wl Tryz.prog 136 [AV.d (Addr.toD a0),AV.d (Addr.toD a1)] [] (.d (D.i r)) []:=by
 refine ok Tryz.f136 (by kernel_rfl) (by kernel_rfl) ⟨rfl,?_⟩;unfold addr_Cmp at h;(conv=>whnf);refine dOB (by kernel_rfl) ?_;obtain ⟨v1,g2,h⟩:=bind_inv h;refine ⟨_,_,addr_family_ok g2,.inl rfl,?_⟩;obtain ⟨v3,g4,h⟩:=bind_inv h;refine ⟨_,_,addr_family_ok g4,.inl rfl,?_⟩;obtain ⟨v5,g6,h⟩:=bind_inv h;refine ⟨_,_,cmp_Compare_int_ok g6,.inl rfl,?_⟩;obtain ⟨v7,g8,h⟩:=bind_inv h;refine ⟨_,_,cmp_Compare_uint64_ok g8,.inl rfl,?_⟩;obtain ⟨v9,g10,h⟩:=bind_inv h;refine ⟨_,_,cmp_Compare_uint64_ok g10,.inl rfl,?_⟩;refine ⟨rfl,?_⟩;obtain ⟨v11,g12,h⟩:=bind_inv h;refine ⟨_,_,cmp_Or_int_ok g12,.inl rfl,?_⟩;(conv=>whnf);refine cOB (by kernel_rfl) ?_;cases h;exact ⟨rfl,rfl⟩
theorem prefix_Cmp_ok {wl:Prop} {a0:Prefix} {a1:Prefix} {r:Int} (h:prefix_Cmp a0 a1=some r):CallsOK wl Tryz.prog 98 [AV.d (Prefix.toD a0),AV.d (Prefix.toD a1)] [] (.d (D.i r)) []:=by
 refine ok Tryz.f98 (by kernel_rfl) (by kernel_rfl) ⟨rfl,?_⟩;unfold prefix_Cmp at h;(conv=>whnf);refine dOB (by kernel_rfl) ?_;obtain ⟨v1,g2,h⟩:=bind_inv h;refine ⟨_,_,addr_Cmp_ok g2,.inl rfl,?_⟩;obtain ⟨v3,g4,h⟩:=bind_inv h;refine ⟨_,_,cmp_Compare_int_ok g4,.inl rfl,?_⟩;refine ⟨rfl,?_⟩;obtain ⟨v5,g6,h⟩:=bind_inv h;refine ⟨_,_,cmp_Or_int_ok g6,.inl rfl,?_⟩;(conv=>whnf);refine cOB (by kernel_rfl) ?_;cases h;exact ⟨rfl,rfl⟩
theorem irr_Compare_ok {wl:Prop} {a0:Object} {a1:Object} {r:Int} (h:irr_Compare a0 a1=some r):CallsOK wl Tryz.prog 80 [AV.d (Object.toD a0),AV.d (Object.toD a1)] [] (.d (D.i r)) []:=by
 refine ok Tryz.f80 (by kernel_rfl) (by kernel_rfl) ⟨rfl,?_⟩;unfold irr_Compare at h;(conv=>whnf);refine dOB (by kernel_rfl) ?_;obtain ⟨v1,g2,h⟩:=bind_inv h;refine ⟨_,_,prefix_Cmp_ok g2,.inl rfl,?_⟩;obtain ⟨v3,g4,h⟩:=bind_inv h;refine ⟨_,_,cmp_Compare_int_ok g4,.inl rfl,?_⟩;obtain ⟨v5,g6,h⟩:=bind_inv h;refine ⟨_,_,cmp_Compare_int_ok g6,.inl rfl,?_⟩;refine ⟨rfl,?_⟩;obtain ⟨v7,g8,h⟩:=bind_inv h;refine ⟨_,_,cmp_Or_int_ok g8,.inl rfl,?_⟩;(conv=>whnf);refine cOB (by kernel_rfl) ?_;cases h;exact ⟨rfl,rfl⟩
end Go.AX.Q20
end
section
namespace Go.AX.Q20
open Go Go.AX Go.Proofs
set_option maxRecDepth 100000
set_option maxHeartbeats 4000000
set_option linter.unusedVariables false
theorem slices_Compact_api_Object_api_Object_ok {wl:Prop} {a0:List Object} {r:(List Object)} (h:slices_Compact_api_Object_api_Object a0=some r):CallsOK wl Tryz.prog 81 [AV.own 0 (List.map Object.toD a0).length] [.row 55 6 (List.map Object.toD a0) false] (AV.own 1 (List.map Object.toD r).length) [.gone,.row 55 6 (List.map Object.toD r) false]:=by
 refine ok Tryz.f81 (by kernel_rfl) (by kernel_rfl) ⟨rfl,?_⟩;unfold slices_Compact_api_Object_api_Object at h;refine ⟨a0.length,by first | exact List.length_map _ | rfl | (simp only [List.length_map];omega),?_⟩;(conv=>whnf);refine .go ?_;revert h;refine sel_if ?_ ?_<;>intro h
 ·(conv=>whnf);refine .inr ?_;cases h;exact ⟨rfl,rfl⟩
 ·revert h;refine cut_join (fun _=>⟨AV.own 0 (List.map Object.toD a0).length::dd 60 ([]),some (OB.row 55 6 (List.map Object.toD a0) false)::nn 61 ([])⟩) ?_ ?_
  ·intro k1 h;revert h;refine loop_while (fun v2=>⟨AV.own 0 (List.map Object.toD a0).length::X::X::AV.d (D.i v2)::dd 57 ([]),some (OB.row 55 6 (List.map Object.toD a0) false)::nn 61 ([])⟩) ?_ ?_
   ·exact wk
   rintro next3 v2 K4 h hK5;refine ⟨a0.length,by first | exact List.length_map _ | rfl | (simp only [List.length_map];omega),?_⟩;(conv=>whnf);refine .go ?_;revert h;refine sel_if ?_ ?_<;>intro h
   ·revert h;refine cut_join (fun _=>⟨AV.own 0 (List.map Object.toD a0).length::X::X::AV.d (D.i v2)::dd 57 ([]),some (OB.row 55 6 (List.map Object.toD a0) false)::nn 61 ([])⟩) ?_ ?_
    ·intro k6 h;(conv=>whnf);refine dOB (by kernel_rfl) ?_;obtain ⟨v7,g8,h⟩:=bind_inv h;refine ⟨rfl,geti_b (f:=Object.toD) g8,?_⟩;refine ⟨rfl,Object.toD v7,(geti_d (f:=Object.toD) g8),?_⟩;refine ⟨_,rfl,?_⟩;obtain ⟨v9,g10,h⟩:=bind_inv h;refine ⟨rfl,geti_b (f:=Object.toD) g10,?_⟩;refine ⟨rfl,Object.toD v9,(geti_d (f:=Object.toD) g10),?_⟩;(conv=>whnf);refine cOB (by kernel_rfl) ?_;(conv=>whnf);refine .go ?_;revert h;refine sel_if ?_ ?_<;>intro h
     ·(conv=>whnf);refine .inr (.inl ?_);obtain ⟨_,g11,h⟩:=bind_inv h;have g5932c:=chk_inv g11;refine ⟨view_b0 (f:=Object.toD) g11,rfl,(Int.toNat v2),(Int.toNat (a0.length:Int) - Int.toNat v2),rfl,(by rw [List.length_map]),?_⟩;revert h;refine cut_join (fun (v12,v13)=>⟨AV.own 0 (List.map Object.toD v13).length::X::X::AV.d (D.i v12)::dd 57 ([]),some (OB.row 55 6 (List.map Object.toD v13) false)::nn 61 ([])⟩) ?_ ?_
      ·intro k14 h;revert h;refine loop_while (fun (v15,v16,v17)=>⟨AV.own 0 (List.map Object.toD v17).length::X::X::AV.d (D.i v15)::AV.osl 0 (Int.toNat v2) (Int.toNat (a0.length:Int) - Int.toNat v2) (List.map Object.toD v17).length::AV.d (D.i v16)::dd 55 ([]),some (OB.row 55 6 (List.map Object.toD v17) false)::nn 61 ([])⟩) ?_ ?_
       ·exact wk
       rintro next18 ⟨v15,v16,v17⟩ K19 h hK20;refine ⟨(Int.toNat (a0.length:Int) - Int.toNat v2),rfl,?_⟩;(conv=>whnf);refine .go ?_;revert h;refine sel_if ?_ ?_<;>intro h
       ·(conv=>whnf);refine .go ?_;(conv=>whnf);refine dOB (by kernel_rfl) ?_;obtain ⟨v21,g22,h⟩:=bind_inv h;refine ⟨(by first | rfl | (simp only [List.length_map,List.length_set];omega) | (simp only [List.length_map,List.length_set,List.length_append,List.length_take,List.length_drop,List.length_replicate];omega)),view_i g22,_,rfl,?_⟩;refine ⟨rfl,Object.toD v21,(view_d (f:=Object.toD) g22),?_⟩;refine ⟨_,rfl,?_⟩;obtain ⟨v23,g24,h⟩:=bind_inv h;refine ⟨(by first | rfl | (simp only [List.length_map,List.length_set];omega) | (simp only [List.length_map,List.length_set,List.length_append,List.length_take,List.length_drop,List.length_replicate];omega)),view_i g24,_,rfl,?_⟩;refine ⟨rfl,Object.toD v23,(view_d (f:=Object.toD) g24),?_⟩;(conv=>whnf);refine cOB (by kernel_rfl) ?_;revert h;refine cut_join (fun (v25,v26)=>⟨AV.own 0 (List.map Object.toD v26).length::X::X::AV.d (D.i v25)::AV.osl 0 (Int.toNat v2) (Int.toNat (a0.length:Int) - Int.toNat v2) (List.map Object.toD v26).length::AV.d (D.i v16)::dd 55 ([]),some (OB.row 55 6 (List.map Object.toD v26) false)::nn 61 ([])⟩) ?_ ?_
        ·intro k27 h;revert h;refine sel_if ?_ ?_<;>intro h
         ·obtain ⟨v28,g29,h⟩:=bind_inv h;refine ⟨(by first | rfl | (simp only [List.length_map,List.length_set];omega) | (simp only [List.length_map,List.length_set,List.length_append,List.length_take,List.length_drop,List.length_replicate];omega)),view_i g29,_,rfl,?_⟩;refine ⟨rfl,Object.toD v28,(view_d (f:=Object.toD) g29),?_⟩;obtain ⟨v30,g31,h⟩:=bind_inv h;refine ⟨rfl,geti_b (f:=Object.toD) g31,?_⟩;obtain ⟨v32,g33,h⟩:=bind_inv h;have g33l:=seti_len g33;refine ⟨rfl,rfl,Object.toD v30,(geti_d (f:=Object.toD) g31),?_⟩;refine ⟨_,seti_z (f:=Object.toD) g33,?_⟩;refine ⟨_,rfl,?_⟩;exact join_end wk h
         ·exact join_end wk h
        ·rintro ⟨v25,v26⟩ h;refine ⟨_,rfl,?_⟩;exact hK20 _ _ wk h
       ·exact join_end wk h
      ·rintro ⟨v12,v13⟩ h;(conv=>whnf);refine .inr (.inl ?_);obtain ⟨_,g34,h⟩:=bind_inv h;have g6183c:=chk_inv g34;refine ⟨view_b0 (f:=Object.toD) g34,rfl,(Int.toNat v12),(Int.toNat (v13.length:Int) - Int.toNat v12),rfl,(by rw [List.length_map]),?_⟩;refine ⟨(by first | rfl | (simp only [List.length_map,List.length_set];omega) | (simp only [List.length_map,List.length_set,List.length_append,List.length_take,List.length_drop,List.length_replicate];omega)),Object.toD (⟨(⟨(⟨false,(0:UInt64),(0:UInt64)⟩:Addr),0⟩:Prefix),0,0⟩:Object),rfl,List.map Object.toD (List.take (Int.toNat v12) v13 ++ List.replicate (Int.toNat (v13.length:Int) - Int.toNat v12) (⟨(⟨(⟨false,(0:UInt64),(0:UInt64)⟩:Addr),0⟩:Prefix),0,0⟩:Object) ++ List.drop ((Int.toNat v12) + (Int.toNat (v13.length:Int) - Int.toNat v12)) v13),clear_z,?_⟩;(conv=>whnf);refine .inr (.inr ?_);obtain ⟨v35,g36,h⟩:=bind_inv h;refine ⟨move_b (f:=Object.toD) g36,(by first | rfl | (simp only [List.length_map];omega) | (simp only [List.length_map,List.length_set,List.length_append,List.length_take,List.length_drop,List.length_replicate];omega)),_,part_z (f:=Object.toD) g36,?_⟩;(conv=>whnf);refine .inl ?_;(conv=>whnf);refine .inr ?_;cases h;exact ⟨rfl,rfl⟩
     ·exact join_end wk h
    ·rintro _ h;refine ⟨_,rfl,?_⟩;exact hK5 _ _ wk h
   ·exact join_end wk h
  ·rintro _ h;(conv=>whnf);refine .inr ?_;cases h;exact ⟨rfl,rfl⟩
theorem irr_Ordered_ok {wl:Prop} {a0:List Object} {r:(List Object)} (h:irr_Ordered a0=some r):CallsOK wl Tryz.prog 48 [AV.d (D.l 6 Object.toD a0)] [] (.d (D.l 6 Object.toD r)) []:=by
 refine ok Tryz.f48 (by kernel_rfl) (by kernel_rfl) ⟨rfl,?_⟩;unfold irr_Ordered at h;obtain ⟨v1,g2,h⟩:=bind_inv h;refine ⟨_,_,some [5],slices_Clone_api_Object_api_Object_ok g2,?_⟩;obtain ⟨v3,g4,h⟩:=bind_inv h;have g4l:=sortF_len g4;refine ⟨_,_,some [],sortf79_ok (f:=Object.toD) (enters_of Tryz.func80 (by kernel_rfl) rfl) (fun h=>irr_Compare_ok h) g4,?_⟩;obtain ⟨v5,g6,h⟩:=bind_inv h;have g7:(List.map Object.toD v3).length=(List.map Object.toD v1).length:=(by first | rfl | (simp only [List.length_map,List.length_set];omega) | (simp only [List.length_map,List.length_set,List.length_append,List.length_take,List.length_drop,List.length_replicate];omega) | (simp only [List.length_map] at *;omega));refine ⟨_,_,some [9],(g7 ▸ slices_Compact_api_Object_api_Object_ok g6),?_⟩;(conv=>whnf);refine .inl ?_;(conv=>whnf);refine .inl ?_;refine ⟨rfl,?_⟩;cases h;exact ⟨rfl,rfl⟩
theorem prefix_Contains_ok {wl:Prop} {a0:Prefix} {a1:Addr} {r:Bool} (h:prefix_Contains a0 a1=some r):CallsOK wl Tryz.prog 82 [AV.d (Prefix.toD a0),AV.d (Addr.toD a1)] [] (.d (D.b r)) []:=by
 refine ok Tryz.f82 (by kernel_rfl) (by kernel_rfl) ⟨rfl,?_⟩;unfold prefix_Contains at h;revert h;refine cut_join (fun v1=>⟨dd 4 (AV.d (D.b v1)::dd 27 ([])),nn 32 ([])⟩) ?_ ?_
 ·intro k2 h;(conv=>whnf);refine dOB (by kernel_rfl) ?_;revert h;refine sel_if ?_ ?_<;>intro h
  ·revert h;refine sel_if ?_ ?_<;>intro h
   ·obtain ⟨v3,g4,h⟩:=bind_inv h;refine ⟨_,_,prefix_width_ok g4,.inl rfl,?_⟩;revert h;refine sel_if ?_ ?_<;>intro h
    ·obtain ⟨v5,g6,h⟩:=bind_inv h;refine ⟨_,_,prefix_first_ok g6,.inl rfl,?_⟩;(conv=>whnf);refine cOB (by kernel_rfl) ?_;exact join_end wk h
    ·(conv=>whnf);refine cOB (by kernel_rfl) ?_;exact join_end wk h
   ·(conv=>whnf);refine cOB (by kernel_rfl) ?_;exact join_end wk h
  ·(conv=>whnf);refine cOB (by kernel_rfl) ?_;exact join_end wk h
 ·rintro v1 h;cases h;exact ⟨rfl,rfl⟩
theorem prefix_Covers_ok {wl:Prop} {a0:Prefix} {a1:Prefix} {r:Bool} (h:prefix_Covers a0 a1=some r):CallsOK wl Tryz.prog 50 [AV.d (Prefix.toD a0),AV.d (Prefix.toD a1)] [] (.d (D.b r)) []:=by
 refine ok Tryz.f50 (by kernel_rfl) (by kernel_rfl) ⟨rfl,?_⟩;unfold prefix_Covers at h;revert h;refine cut_join (fun v1=>⟨dd 4 (AV.d (D.b v1)::dd 11 ([])),nn 16 ([])⟩) ?_ ?_
 ·intro k2 h;revert h;refine sel_if ?_ ?_<;>intro h
  ·obtain ⟨v3,g4,h⟩:=bind_inv h;refine ⟨_,_,some [],prefix_Contains_ok g4,?_⟩;exact join_end wk h
  ·exact join_end wk h
 ·rintro v1 h;cases h;exact ⟨rfl,rfl⟩
theorem irr_Normal_1_ok {wl:Prop} {a0:Object} {a1:Object} {r:Bool×Object} (h:irr_Normal_1 a0 a1=some r):CallsOK wl Tryz.prog 49 [AV.d (Object.toD a0),.ref 0 0] [.box (Object.av a1)] (.d (D.b r.1)) [.box (Object.av r.2)]:=by
 refine ok Tryz.f49 (by kernel_rfl) (by kernel_rfl) ⟨rfl,?_⟩;unfold irr_Normal_1 at h;revert h;refine cut_join (fun v1=>⟨X::X::X::AV.d (D.b v1)::dd 24 ([]),some (OB.box (Object.av a1))::nn 28 ([])⟩) ?_ ?_
 ·intro k2 h;revert h;refine sel_if ?_ ?_<;>intro h
  ·revert h;refine sel_if ?_ ?_<;>intro h
   ·revert h;refine sel_if ?_ ?_<;>intro h
    ·obtain ⟨v3,g4,h⟩:=bind_inv h;refine ⟨_,_,some [],prefix_Covers_ok g4,?_⟩;exact join_end wk h
    ·exact join_end wk h
   ·exact join_end wk h
  ·exact join_end wk h
 ·rintro v1 h;cases h;exact ⟨rfl,rfl⟩
theorem slices_IndexFunc_api_Object_api_Object__irr_Normal_1_ok {wl:Prop} {a0:List Object} {a1c0:Object} {r:Int×Object} (h:slices_IndexFunc_api_Object_api_Object__irr_Normal_1 a0 a1c0=some r):CallsOK wl Tryz.prog 83 [AV.d (D.l 6 Object.toD a0),AV.fn 49 [.ref 0 0]] [.box (Object.av a1c0)] (.d (D.i r.1)) [.box (Object.av r.2)]:=by
 refine ok Tryz.f83 (by kernel_rfl) (by kernel_rfl) ⟨rfl,?_⟩;unfold slices_IndexFunc_api_Object_api_Object__irr_Normal_1 at h;refine ⟨a0.length,List.length_map _,?_⟩;revert h;refine cut_join (fun v1=>⟨dd 19 ([]),some (OB.box (Object.av v1))::nn 19 ([])⟩) ?_ ?_
 ·intro k2 h;revert h;refine loop_for 6 6 Object.toD rfl (fun i3 v4=>⟨AV.d (D.l 6 Object.toD a0)::AV.fn 49 [AV.ref 0 0]::dd 4 (AV.d (D.l 6 Object.toD a0)::AV.d (D.i (a0.length:Int))::AV.d (D.i (i3:Int))::dd 10 ([])),some (OB.box (Object.av v4))::nn 19 ([])⟩) ?_ ?_ ?_
  ·exact wk
  ·rintro v4 K5 h;(conv=>whnf);refine .go ?_;(conv=>whnf);refine sel_f lt_f ?_;exact join_end wk h
  ·rintro next6 i3 x7 v4 K5 hii3 hxi3 hwi3 h hK8;(conv=>whnf);refine .go ?_;(conv=>whnf);refine sel_t (lt_t hii3) ?_;(conv=>whnf);refine .go ?_;refine ⟨idx_b (f:=Object.toD) hii3,Object.toD x7,hxi3,rfl,?_⟩;obtain ⟨⟨v9,v10⟩,g11,h⟩:=bind_inv h;refine ⟨_,_,some [],irr_Normal_1_ok g11,?_⟩;(conv=>whnf);refine .go ?_;revert h;refine sel_if ?_ ?_<;>intro h
   ·cases h;exact ⟨rfl,rfl⟩
   ·refine ⟨_,hwi3,?_⟩;exact hK8 _ _ wk h
 ·rintro v1 h;cases h;exact ⟨rfl,rfl⟩
theorem slices_ContainsFunc_api_Object_api_Object__irr_Normal_1_ok {wl:Prop} {a0:List Object} {a1c0:Object} {r:Bool×Object} (h:slices_ContainsFunc_api_Object_api_Object__irr_Normal_1 a0 a1c0=some r):CallsOK wl Tryz.prog 51 [AV.d (D.l 6 Object.toD a0),AV.fn 49 [.ref 0 0]] [.box (Object.av a1c0)] (.d (D.b r.1)) [.box (Object.av r.2)]:=by
 refine ok Tryz.f51 (by kernel_rfl) (by kernel_rfl) ⟨rfl,?_⟩;unfold slices_ContainsFunc_api_Object_api_Object__irr_Normal_1 at h;obtain ⟨⟨v1,v2⟩,g3,h⟩:=bind_inv h;refine ⟨_,_,some [],slices_IndexFunc_api_Object_api_Object__irr_Normal_1_ok g3,?_⟩;cases h;exact ⟨rfl,rfl⟩
theorem irr_Normal_ok {wl:Prop} {a0:List Object} {r:(List Object)} (h:irr_Normal a0=some r):CallsOK wl Tryz.prog 21 [AV.d (D.l 6 Object.toD a0)] [] (.d (D.l 6 Object.toD r)) []:=by
 refine ok Tryz.f21 (by kernel_rfl) (by kernel_rfl) ⟨rfl,?_⟩;unfold irr_Normal at h;obtain ⟨v1,g2,h⟩:=bind_inv h;refine ⟨_,_,some [],irr_Ordered_ok g2,?_⟩;refine ⟨v1.length,List.length_map _,?_⟩;revert h;refine cut_join (fun v3=>⟨dd 4 (AV.own 4 (List.map Object.toD v3).length::dd 22 ([])),nn 4 (some (OB.row 55 6 (List.map Object.toD v3) false)::nn 22 ([]))⟩) ?_ ?_
 ·intro k4 h;revert h;refine loop_for 10 6 Object.toD rfl (fun i5 v6=>⟨X::X::X::AV.d (D.l 6 Object.toD v1)::AV.own 4 (List.map Object.toD v6).length::dd 5 (AV.d (D.l 6 Object.toD v1)::AV.d (D.i (v1.length:Int))::AV.d (D.i (i5:Int))::dd 14 ([])),nn 4 (some (OB.row 55 6 (List.map Object.toD v6) false)::nn 22 ([]))⟩) ?_ ?_ ?_
  ·exact wk
  ·rintro v6 K7 h;(conv=>whnf);refine .go ?_;(conv=>whnf);refine sel_f lt_f ?_;exact join_end wk h
  ·rintro next8 i5 x9 v6 K7 hii5 hxi5 hwi5 h hK10;(conv=>whnf);refine .go ?_;(conv=>whnf);refine sel_t (lt_t hii5) ?_;(conv=>whnf);refine .go ?_;refine ⟨idx_b (f:=Object.toD) hii5,Object.toD x9,hxi5,rfl,?_⟩;obtain ⟨⟨v11,v12⟩,g13,h⟩:=bind_inv h;refine ⟨_,_,some [],slices_ContainsFunc_api_Object_api_Object__irr_Normal_1_ok g13,?_⟩;revert h;refine cut_join (fun v14=>⟨X::X::X::AV.d (D.l 6 Object.toD v1)::AV.own 4 (List.map Object.toD v14).length::dd 5 (AV.d (D.l 6 Object.toD v1)::AV.d (D.i (v1.length:Int))::AV.d (D.i (i5:Int))::dd 14 ([])),nn 4 (some (OB.row 55 6 (List.map Object.toD v14) false)::nn 22 ([]))⟩) ?_ ?_
   ·intro k15 h;revert h;refine sel_if ?_ ?_<;>intro h
    ·refine ⟨rfl,?_⟩;obtain ⟨v16,g17,h⟩:=bind_inv h;refine ⟨rfl,apnd_b (f:=Object.toD) (g:=Object.toD) g17,_,apnd_z (f:=Object.toD) g17,?_⟩;exact join_end wk h
    ·exact join_end wk h
   ·rintro v14 h;refine ⟨_,hwi5,?_⟩;exact hK10 _ _ wk h
 ·rintro v3 h;(conv=>whnf);refine .inl ?_;(conv=>whnf);refine .inl ?_;refine ⟨rfl,?_⟩;cases h;exact ⟨rfl,rfl⟩
theorem irr_Permits_ok {wl:Prop} {a0:List Object} {a1:Prefix} {a2:Int} {r:Int} (h:irr_Permits a0 a1 a2=some r):CallsOK wl Tryz.prog 24 [AV.d (D.l 6 Object.toD a0),AV.d (Prefix.toD a1),AV.d (D.i a2)] [] (.d (D.i r)) []:=by
 refine ok Tryz.f24 (by kernel_rfl) (by kernel_rfl) ⟨rfl,?_⟩;unfold irr_Permits at h;obtain ⟨v1,g2,h⟩:=bind_inv h;refine ⟨_,_,some [],prefix_Valid_ok g2,?_⟩;(conv=>whnf);refine .go ?_;revert h;refine sel_if ?_ ?_<;>intro h
 ·cases h;exact ⟨rfl,rfl⟩
 ·refine ⟨a0.length,List.length_map _,?_⟩;revert h;refine cut_join (fun v3=>⟨dd 7 (AV.d (D.i v3)::dd 32 ([])),nn 40 ([])⟩) ?_ ?_
  ·intro k4 h;revert h;refine loop_for 13 6 Object.toD rfl (fun i5 v6=>⟨X::X::AV.d (D.i a2)::X::AV.ref 4 0::X::X::AV.d (D.i v6)::dd 5 (AV.d (D.l 6 Object.toD a0)::AV.d (D.i (a0.length:Int))::AV.d (D.i (i5:Int))::dd 24 ([])),nn 4 (some (OB.box (Prefix.av a1))::nn 35 ([]))⟩) ?_ ?_ ?_
   ·exact wk
   ·rintro v6 K7 h;(conv=>whnf);refine .go ?_;(conv=>whnf);refine sel_f lt_f ?_;exact join_end wk h
   ·rintro next8 i5 x9 v6 K7 hii5 hxi5 hwi5 h hK10;(conv=>whnf);refine .go ?_;(conv=>whnf);refine sel_t (lt_t hii5) ?_;(conv=>whnf);refine .go ?_;refine ⟨idx_b (f:=Object.toD) hii5,Object.toD x9,hxi5,rfl,?_⟩;(conv=>whnf);refine .go ?_;revert h;refine cut_join (fun v11=>⟨X::X::AV.d (D.i a2)::X::AV.ref 4 0::X::X::AV.d (D.i v11)::dd 5 (AV.d (D.l 6 Object.toD a0)::AV.d (D.i (a0.length:Int))::AV.d (D.i (i5:Int))::dd 24 ([])),nn 4 (some (OB.box (Prefix.av a1))::nn 35 ([]))⟩) ?_ ?_
    ·intro k12 h;revert h;refine sel_if ?_ ?_<;>intro h
     ·exact join_end wk h
     ·obtain ⟨v13,g14,h⟩:=bind_inv h;refine ⟨_,_,some [],prefix_Covers_ok g14,?_⟩;revert h;refine cut_join (fun v15=>⟨X::X::AV.d (D.i a2)::X::AV.ref 4 0::X::X::AV.d (D.i v15)::dd 5 (AV.d (D.l 6 Object.toD a0)::AV.d (D.i (a0.length:Int))::AV.d (D.i (i5:Int))::dd 24 ([])),nn 4 (some (OB.box (Prefix.av a1))::nn 35 ([]))⟩) ?_ ?_
      ·intro k16 h;revert h;refine sel_if ?_ ?_<;>intro h
       ·revert h;refine cut_join (fun v17=>⟨X::X::AV.d (D.i a2)::X::AV.ref 4 0::X::X::AV.d (D.i v17)::dd 5 (AV.d (D.l 6 Object.toD a0)::AV.d (D.i (a0.length:Int))::AV.d (D.i (i5:Int))::dd 24 ([])),nn 4 (some (OB.box (Prefix.av a1))::nn 35 ([]))⟩) ?_ ?_
        ·intro k18 h;revert h;refine sel_if ?_ ?_<;>intro h
         ·exact join_end wk h
         ·exact join_end wk h
        ·rintro v17 h;exact join_end wk h
       ·(conv=>whnf);refine .go ?_;revert h;refine sel_if ?_ ?_<;>intro h
        ·exact join_end wk h
        ·cases h;exact ⟨rfl,rfl⟩
      ·rintro v15 h;exact join_end wk h
    ·rintro v11 h;refine ⟨_,hwi5,?_⟩;exact hK10 _ _ wk h
  ·rintro v3 h;cases h;exact ⟨rfl,rfl⟩
theorem ref02_Contains_ok {wl:Prop} {a0:Prefix} {a1:Addr} {r:Bool} (h:ref02_Contains a0 a1=some r):CallsOK wl Tryz.prog 57 [AV.d (Prefix.toD a0),AV.d (Addr.toD a1)] [] (.d (D.b r)) []:=by
 refine ok Tryz.f57 (by kernel_rfl) (by kernel_rfl) ⟨rfl,?_⟩;unfold ref02_Contains at h;obtain ⟨⟨v1,v2⟩,g3,h⟩:=bind_inv h;refine ⟨_,_,some [],ref02_Make_ok g3,?_⟩;revert h;refine cut_join (fun v4=>⟨dd 4 (AV.d (D.b v4)::dd 16 ([])),nn 21 ([])⟩) ?_ ?_
 ·intro k5 h;revert h;refine sel_if ?_ ?_<;>intro h
  ·exact join_end wk h
  ·exact join_end wk h
 ·rintro v4 h;cases h;exact ⟨rfl,rfl⟩
theorem ref02_Covers_ok {wl:Prop} {a0:Prefix} {a1:Prefix} {r:Bool} (h:ref02_Covers a0 a1=some r):CallsOK wl Tryz.prog 25 [AV.d (Prefix.toD a0),AV.d (Prefix.toD a1)] [] (.d (D.b r)) []:=by
 refine ok Tryz.f25 (by kernel_rfl) (by kernel_rfl) ⟨rfl,?_⟩;unfold ref02_Covers at h;revert h;refine cut_join (fun v1=>⟨dd 4 (AV.d (D.b v1)::dd 11 ([])),nn 16 ([])⟩) ?_ ?_
 ·intro k2 h;revert h;refine sel_if ?_ ?_<;>intro h
  ·obtain ⟨v3,g4,h⟩:=bind_inv h;refine ⟨_,_,some [],ref02_Contains_ok g4,?_⟩;exact join_end wk h
  ·exact join_end wk h
 ·rintro v1 h;cases h;exact ⟨rfl,rfl⟩
theorem law20_IrrNormal_ok {a0:List Int} {a1:Int} {r:Bool} (h:law20_IrrNormal a0 a1=some r):CallsOK True Tryz.prog 5 [AV.d (D.l 1 D.i a0),AV.d (D.i a1)] [] (.d (D.b r)) []:=by
 refine ok Tryz.f5 (by kernel_rfl) (by kernel_rfl) ⟨rfl,?_⟩;unfold law20_IrrNormal at h;obtain ⟨v1,g2,h⟩:=bind_inv h;refine ⟨_,_,some [27],make_New_ok g2,?_⟩;obtain ⟨⟨v3,v4⟩,g5,h⟩:=bind_inv h;refine ⟨_,_,some [],make_Deck_Registry_ok g5,?_⟩;obtain ⟨v6,g7,h⟩:=bind_inv h;refine ⟨_,_,some [],irr_Normal_ok g7,?_⟩;obtain ⟨⟨v8,v9⟩,g10,h⟩:=bind_inv h;refine ⟨_,_,some [],make_Deck_Prefix_ok g10,?_⟩;obtain ⟨⟨v11,v12⟩,g13,h⟩:=bind_inv h;refine ⟨_,_,some [],make_Deck_Prefix_ok g13,?_⟩;refine ⟨v3.Objects.length,List.length_map _,?_⟩;revert h;refine cut_join (fun v14=>⟨X::AV.d (D.i a1)::dd 4 (AV.ref 6 0::AV.d (D.l 6 Object.toD v6)::AV.own 37 (List.map Prefix.toD v14).length::dd 169 ([])),nn 6 (some (OB.box (Registry.av v3))::nn 30 (some (OB.row 51 4 (List.map Prefix.toD v14) false)::nn 140 ([])))⟩) ?_ ?_
 ·intro k15 h;revert h;refine loop_for 39 6 Object.toD rfl (fun i16 v17=>⟨X::AV.d (D.i a1)::dd 4 (AV.ref 6 0::AV.d (D.l 6 Object.toD v6)::AV.own 37 (List.map Prefix.toD v17).length::dd 30 (AV.d (D.l 6 Object.toD v3.Objects)::AV.d (D.i (v3.Objects.length:Int))::AV.d (D.i (i16:Int))::dd 136 ([]))),nn 6 (some (OB.box (Registry.av v3))::nn 30 (some (OB.row 51 4 (List.map Prefix.toD v17) false)::nn 140 ([])))⟩) ?_ ?_ ?_
  ·exact wk
  ·rintro v17 K18 h;(conv=>whnf);refine .go ?_;(conv=>whnf);refine sel_f lt_f ?_;exact join_end wk h
  ·rintro next19 i16 x20 v17 K18 hii16 hxi16 hwi16 h hK21;(conv=>whnf);refine .go ?_;(conv=>whnf);refine sel_t (lt_t hii16) ?_;(conv=>whnf);refine .go ?_;refine ⟨idx_b (f:=Object.toD) hii16,Object.toD x20,hxi16,rfl,?_⟩;obtain ⟨⟨v22,v23⟩,g24,h⟩:=bind_inv h;refine ⟨_,_,some [],ref02_Make_ok g24,?_⟩;refine ⟨rfl,?_⟩;obtain ⟨v25,g26,h⟩:=bind_inv h;refine ⟨rfl,apnd_b (f:=Prefix.toD) (g:=Prefix.toD) g26,_,apnd_z (f:=Prefix.toD) g26,?_⟩;refine ⟨_,hwi16,?_⟩;exact hK21 _ _ wk h
 ·rintro v14 h;refine ⟨v14.length,by first | exact List.length_map _ | rfl | (simp only [List.length_map];omega),?_⟩;revert h;refine cut_join (fun _=>⟨dd 7 (AV.d (D.l 6 Object.toD v6)::dd 170 ([])),nn 178 ([])⟩) ?_ ?_
  ·intro k27 h;revert h;refine loop_own 37 51 4 false Prefix.toD rfl (fun i28 _=>⟨X::AV.d (D.i a1)::dd 4 (AV.ref 6 0::AV.d (D.l 6 Object.toD v6)::dd 53 (AV.own 37 (List.map Prefix.toD v14).length::AV.d (D.i (v14.length:Int))::AV.d (D.i (i28:Int))::dd 114 ([]))),nn 6 (some (OB.box (Registry.av v3))::nn 30 (some (OB.row 51 4 (List.map Prefix.toD v14) false)::nn 140 ([])))⟩) ?_ ?_ ?_
   ·exact wk
   ·rintro _ K29 h;(conv=>whnf);refine .go ?_;(conv=>whnf);refine sel_f lt_f ?_;exact join_end wk h
   ·rintro next30 i28 x31 _ K29 hii28 hxi28 hwi28 h hK32;(conv=>whnf);refine .go ?_;(conv=>whnf);refine sel_t (lt_t hii28) ?_;revert h;refine cut_join (fun _=>⟨X::AV.d (D.i a1)::dd 4 (AV.ref 6 0::AV.d (D.l 6 Object.toD v6)::dd 53 (AV.own 37 (List.map Prefix.toD v14).length::AV.d (D.i (v14.length:Int))::AV.d (D.i (i28:Int))::dd 114 ([]))),nn 6 (some (OB.box (Registry.av v3))::nn 30 (some (OB.row 51 4 (List.map Prefix.toD v14) false)::nn 140 ([])))⟩) ?_ ?_
    ·intro k33 h;refine ⟨rfl,idx_b (f:=Prefix.toD) hii28,?_⟩;refine ⟨rfl,Prefix.toD x31,hxi28,?_⟩;revert h;refine cut_join (fun _=>⟨X::AV.d (D.i a1)::dd 4 (AV.ref 6 0::AV.d (D.l 6 Object.toD v6)::dd 6 (AV.ref 14 0::dd 46 (AV.own 37 (List.map Prefix.toD v14).length::AV.d (D.i (v14.length:Int))::AV.d (D.i (i28:Int))::dd 114 ([])))),nn 6 (some (OB.box (Registry.av v3))::nn 7 (some (OB.box (Prefix.av x31))::nn 22 (some (OB.row 51 4 (List.map Prefix.toD v14) false)::nn 140 ([]))))⟩) ?_ ?_
     ·intro k34 h;revert h;refine loop_while (fun v35=>⟨X::AV.d (D.i a1)::dd 4 (AV.ref 6 0::AV.d (D.l 6 Object.toD v6)::dd 6 (AV.ref 14 0::AV.d (D.i v35)::dd 45 (AV.own 37 (List.map Prefix.toD v14).length::AV.d (D.i (v14.length:Int))::AV.d (D.i (i28:Int))::dd 114 ([])))),nn 6 (some (OB.box (Registry.av v3))::nn 7 (some (OB.box (Prefix.av x31))::nn 22 (some (OB.row 51 4 (List.map Prefix.toD v14) false)::nn 140 ([]))))⟩) ?_ ?_
      ·exact wk
      rintro next36 v35 K37 h hK38;(conv=>whnf);refine .go ?_;revert h;refine sel_if ?_ ?_<;>intro h
      ·(conv=>whnf);refine .go ?_;(conv=>whnf);refine dOB (by kernel_rfl) ?_;obtain ⟨v39,g40,h⟩:=bind_inv h;refine ⟨_,_,irr_Permits_ok g40,.inl rfl,?_⟩;obtain ⟨v41,g42,h⟩:=bind_inv h;refine ⟨_,_,irr_Permits_ok g42,.inl rfl,?_⟩;(conv=>whnf);refine cOB (by kernel_rfl) ?_;(conv=>whnf);refine .go ?_;revert h;refine sel_if ?_ ?_<;>intro h
       ·cases h;exact ⟨rfl,rfl⟩
       ·refine ⟨_,rfl,?_⟩;exact hK38 _ _ wk h
      ·exact join_end wk h
     ·rintro _ h;revert h;refine cut_join (fun v43=>⟨X::AV.d (D.i a1)::dd 4 (AV.ref 6 0::AV.d (D.l 6 Object.toD v6)::dd 53 (AV.own 37 (List.map Prefix.toD v14).length::AV.d (D.i (v14.length:Int))::AV.d (D.i (i28:Int))::dd 31 (AV.d (D.b v43)::dd 82 ([])))),nn 6 (some (OB.box (Registry.av v3))::nn 30 (some (OB.row 51 4 (List.map Prefix.toD v14) false)::nn 140 ([])))⟩) ?_ ?_
      ·intro k44 h;obtain ⟨v45,g46,h⟩:=bind_inv h;refine ⟨_,_,some [],irr_Permits_ok g46,?_⟩;revert h;refine sel_if ?_ ?_<;>intro h
       ·revert h;refine sel_if ?_ ?_<;>intro h
        ·exact join_end wk h
        ·exact join_end wk h
       ·exact join_end wk h
      ·rintro v43 h;(conv=>whnf);refine .go ?_;revert h;refine sel_if ?_ ?_<;>intro h
       ·cases h;exact ⟨rfl,rfl⟩
       ·exact join_end wk h
    ·rintro _ h;refine ⟨_,hwi28,?_⟩;exact hK32 _ _ wk h
  ·rintro _ h;refine ⟨v6.length,List.length_map _,?_⟩;revert h;refine cut_join (fun _=>⟨dd 178 ([]),nn 178 ([])⟩) ?_ ?_
   ·intro k47 h;revert h;refine loop_for 97 6 Object.toD rfl (fun i48 _=>⟨dd 7 (AV.d (D.l 6 Object.toD v6)::dd 89 (AV.d (D.l 6 Object.toD v6)::AV.d (D.i (v6.length:Int))::AV.d (D.i (i48:Int))::dd 78 ([]))),nn 178 ([])⟩) ?_ ?_ ?_
    ·exact wk
    ·rintro _ K49 h;(conv=>whnf);refine .go ?_;(conv=>whnf);refine sel_f lt_f ?_;exact join_end wk h
    ·rintro next50 i48 x51 _ K49 hii48 hxi48 hwi48 h hK52;(conv=>whnf);refine .go ?_;(conv=>whnf);refine sel_t (lt_t hii48) ?_;revert h;refine cut_join (fun _=>⟨dd 7 (AV.d (D.l 6 Object.toD v6)::dd 89 (AV.d (D.l 6 Object.toD v6)::AV.d (D.i (v6.length:Int))::AV.d (D.i (i48:Int))::dd 78 ([]))),nn 178 ([])⟩) ?_ ?_
     ·intro k53 h;refine ⟨idx_b (f:=Object.toD) hii48,Object.toD x51,hxi48,rfl,?_⟩;(conv=>whnf);refine dOB (by kernel_rfl) ?_;obtain ⟨v54,g55,h⟩:=bind_inv h;refine ⟨part_b (f:=Object.toD) g55,_,part_z (f:=Object.toD) g55,?_⟩;obtain ⟨_,g56,h⟩:=bind_inv h;refine ⟨apnd_b0 (g:=Object.toD) g56,?_⟩;refine ⟨_,hwi48,?_⟩;obtain ⟨v57,g58,h⟩:=bind_inv h;refine ⟨part_b0 (f:=Object.toD) g58,_,part_z0 (f:=Object.toD) g58,?_⟩;obtain ⟨v59,g60,h⟩:=bind_inv h;refine ⟨rfl,apnd_b (f:=Object.toD) (g:=Object.toD) g60,_,apnd_z (f:=Object.toD) g60,?_⟩;(conv=>whnf);refine cOB (by kernel_rfl) ?_;obtain ⟨⟨v61,v62⟩,g63,h⟩:=bind_inv h;refine ⟨_,_,some [],ref02_Make_ok g63,?_⟩;obtain ⟨⟨v64,v65⟩,g66,h⟩:=bind_inv h;refine ⟨_,_,some [],ref02_Make_ok g66,?_⟩;revert h;refine cut_join (fun v67=>⟨dd 7 (AV.d (D.l 6 Object.toD v6)::dd 9 (AV.ref 17 0::AV.own 107 (List.map Object.toD v59).length::dd 78 (AV.d (D.l 6 Object.toD v6)::AV.d (D.i (v6.length:Int))::AV.d (D.i (i48:Int))::dd 45 (AV.d (D.b v67)::dd 32 ([]))))),nn 17 (some (OB.box (Object.av x51))::nn 89 (some (OB.row 55 6 (List.map Object.toD v59) false)::nn 70 ([])))⟩) ?_ ?_
      ·intro k68 h;refine ⟨rfl,?_⟩;obtain ⟨v69,g70,h⟩:=bind_inv h;refine ⟨_,_,none,irr_Permits_ok g70,?_⟩;revert h;refine sel_if ?_ ?_<;>intro h
       ·refine ⟨rfl,?_⟩;obtain ⟨v71,g72,h⟩:=bind_inv h;refine ⟨_,_,none,irr_Permits_ok g72,?_⟩;exact join_end wk h
       ·exact join_end wk h
      ·rintro v67 h;revert h;refine cut_join (fun _=>⟨dd 7 (AV.d (D.l 6 Object.toD v6)::dd 89 (AV.d (D.l 6 Object.toD v6)::AV.d (D.i (v6.length:Int))::AV.d (D.i (i48:Int))::dd 78 ([]))),nn 178 ([])⟩) ?_ ?_
       ·intro k73 h;revert h;refine sel_if ?_ ?_<;>intro h
        ·refine ⟨v59.length,by first | exact List.length_map _ | rfl | (simp only [List.length_map];omega),?_⟩;revert h;refine cut_join (fun v74=>⟨dd 7 (AV.d (D.l 6 Object.toD v6)::dd 15 (AV.d (D.b v74)::dd 73 (AV.d (D.l 6 Object.toD v6)::AV.d (D.i (v6.length:Int))::AV.d (D.i (i48:Int))::dd 78 ([])))),nn 178 ([])⟩) ?_ ?_
         ·intro k75 h;revert h;refine loop_own 107 55 6 false Object.toD rfl (fun i76 v77=>⟨dd 7 (AV.d (D.l 6 Object.toD v6)::dd 9 (AV.ref 17 0::dd 5 (AV.d (D.b v77)::dd 73 (AV.d (D.l 6 Object.toD v6)::AV.d (D.i (v6.length:Int))::AV.d (D.i (i48:Int))::dd 46 (AV.own 107 (List.map Object.toD v59).length::AV.d (D.i (v59.length:Int))::AV.d (D.i (i76:Int))::dd 29 ([])))))),nn 17 (some (OB.box (Object.av x51))::nn 89 (some (OB.row 55 6 (List.map Object.toD v59) false)::nn 70 ([])))⟩) ?_ ?_ ?_
          ·exact wk
          ·rintro v77 K78 h;(conv=>whnf);refine .go ?_;(conv=>whnf);refine sel_f lt_f ?_;exact join_end wk h
          ·rintro next79 i76 x80 v77 K78 hii76 hxi76 hwi76 h hK81;(conv=>whnf);refine .go ?_;(conv=>whnf);refine sel_t (lt_t hii76) ?_;(conv=>whnf);refine .go ?_;refine ⟨rfl,idx_b (f:=Object.toD) hii76,?_⟩;refine ⟨rfl,Object.toD x80,hxi76,?_⟩;revert h;refine cut_join (fun v82=>⟨dd 7 (AV.d (D.l 6 Object.toD v6)::dd 9 (AV.ref 17 0::dd 5 (AV.d (D.b v82)::dd 73 (AV.d (D.l 6 Object.toD v6)::AV.d (D.i (v6.length:Int))::AV.d (D.i (i48:Int))::dd 46 (AV.own 107 (List.map Object.toD v59).length::AV.d (D.i (v59.length:Int))::AV.d (D.i (i76:Int))::dd 29 ([])))))),nn 17 (some (OB.box (Object.av x51))::nn 89 (some (OB.row 55 6 (List.map Object.toD v59) false)::nn 70 ([])))⟩) ?_ ?_
           ·intro k83 h;revert h;refine sel_if ?_ ?_<;>intro h
            ·exact join_end wk h
            ·revert h;refine sel_if ?_ ?_<;>intro h
             ·obtain ⟨v84,g85,h⟩:=bind_inv h;refine ⟨_,_,some [],ref02_Covers_ok g85,?_⟩;revert h;refine sel_if ?_ ?_<;>intro h
              ·exact join_end wk h
              ·exact join_end wk h
             ·exact join_end wk h
           ·rintro v82 h;refine ⟨_,hwi76,?_⟩;exact hK81 _ _ wk h
         ·rintro v74 h;(conv=>whnf);refine .go ?_;revert h;refine sel_if ?_ ?_<;>intro h
          ·cases h;exact ⟨rfl,rfl⟩
          ·exact join_end wk h
        ·exact join_end wk h
       ·rintro _ h;exact join_end wk h
     ·rintro _ h;refine ⟨_,hwi48,?_⟩;exact hK52 _ _ wk h
   ·rintro _ h;obtain ⟨v86,g87,h⟩:=bind_inv h;refine ⟨_,_,some [],law20_awake_ok g87,?_⟩;cases h;exact ⟨rfl,rfl⟩
end Go.AX.Q20
end
