/-
  Texts of one proof, packed.
-/
import Derived.Test.YtbohbnpaadcfmaaGreatDoorKY5
import Derived.KernelRfl
set_option linter.all false
set_option maxRecDepth 100000
set_option maxHeartbeats 4000000
open List renaming length_append→X11,length_cons→X12,length_nil→X13,mem_singleton→X14,getElem?_eq_getElem→X15,getElem?_eq_some_iff→X16,length_drop→X17,length_take→X18,mem_cons_of_mem→X19,length_replicate→X20,length_singleton→X22,mem_append→X23
open Option.some renaming injEq→X24,inj→X25
open Prod.mk renaming injEq→X26
open Bool renaming and_eq_true→X27,eq_iff_iff→X28
open Nat renaming add_mul→X32
section
namespace Go.AX.Q19
open Go Go.AX
def ltI (a b:Int):Bool:=decide (a<b)
theorem P4 (a:Int):ltI a a=false:=by simp[ltI]
theorem UD (a b c:Int)(h1:ltI a b=true)(h2:ltI b c=true):ltI a c=true:=by simp only[ltI,decide_eq_true_eq] at *;omega
theorem Xj (a b:Int)(h:ltI a b=false):a=b\/ltI b a=true:=by simp only[ltI,decide_eq_true_eq,decide_eq_false_iff_not] at *;omega
def Asc (l r:List Int):Prop:=r.Pairwise (fun a b=>ltI a b=true)/\∀x,x∈r↔x∈l
theorem Asc.uniq {l r s:List Int}(h:Asc l r)(k:Asc l s):r=s:=
 I6 (lt:=fun a b=>ltI a b=true) (fun a=>by simp[P4]) UD h.1 k.1 fun x=>(h.2 x).trans (k.2 x).symm
theorem OF {l:List Int}(hl:l.length<=1000000):Ok (I7 l) (Asc l):=by
 unfold I7
 refine .join (Asc l) (fun k hk=>?_) fun r hr=>.ret hr
 refine .forX (fun i v=>v.Pairwise (fun a b=>ltI a b=true)/\(∀x,x∈v↔x∈l.take i)/\v.length<=i) ⟨.nil,by simp,by simp⟩ (fun v hv=>hk v ⟨hv.1,by simpa using hv.2.1⟩) fun next x i v hx hI hn=>?_
 obtain⟨i1,i2,i3⟩:=hI
 have hil:=(X16.1 hx).1
 have hmt :∀y,y∈l.take (i+1)↔y∈l.take i\/y=x:=by
  intro y
  rw[List.take_add_one,hx]
  simp
 refine .join (fun v'=>v'.Pairwise (fun a b=>ltI a b=true)/\(∀x,x∈v'↔x∈l.take (i+1))/\v'.length<=i+1) (fun k6 hk6=>?_) fun v' h=>hn _ h
 have hpos:=Gt (ltI · x) v
 rw[ay (p:=(ltI · x)) (fun y k4=>k4 (cond true (decide (y<x)) false)) (by omega) (fun y _ k=>rfl)]
 have hh:=ZU UD P4 (x:=x) i1
 obtain⟨t1,t2⟩:=takeWhile_take (ltI · x) v
 refine .join (fun c=>c=true↔x∈v) (fun k15 hk15=>?_) fun c hc=>.ite (fun h=>?_) fun h=>?_
 ·by_cases hk:(v.takeWhile (ltI · x)).length<v.length
  ·rw[if_pos (by simpa using hk),C0 hk,AC]
   refine hk15 _ ?_
   rw[hh,X15 hk]
   simp only[cond_true,beq_iff_eq,X24]
  rw[if_neg (by simpa using hk)]
  refine hk15 _ ?_
  rw[hh,List.getElem?_eq_none (by omega)]
  simp
 ·refine hk6 _ ⟨i1,fun y=>?_,by omega⟩
  rw[hmt,i2 y]
  refine⟨.inl,fun q=>q.elim id fun e=>?_⟩
  rw[e];exact (i2 x).1 (hc.1 h)
 have hnx:x∉v:=fun q=>h (hc.2 q)
 simp only[Int.toNat_natCast,Int.toNat_zero,List.drop_zero,Nat.sub_zero]
 refine .bind (Ok.chk (by omega)) fun _ _=>.bind (Ok.apnd (by decide) (by simp;omega)) fun _ _=>.bind (Ok.apnd (by decide) (by simp;omega)) fun a ha=>.bind (Ok.chk (by omega)) fun _ _=>.bind (Ok.apnd (by decide) (by rw[ha];simp;omega)) fun b hb=>hk6 _ ?_
 have e:b=Gj ltI v x:=by
  have e2:(List.drop (v.takeWhile (ltI · x)).length v).take (v.length-(v.takeWhile (ltI · x)).length)=v.dropWhile (ltI · x):=by
   rw[List.take_of_length_le (by simp),t2]
  rw[hb,ha,e2,t1]
  unfold Gj
  simp
 rw[e]
 refine⟨IY UD Xj i1 hnx,fun y=>?_,by rw[HB];omega⟩
 rw[Fb,hmt,i2]
def srt (l:List Int):List Int:=(I7 l).getD []
theorem Xq {l:List Int}(hl:l.length<=1000000):Asc l (srt l):=by
 obtain⟨r,h,k⟩:=OF hl
 unfold srt;rw[h];exact k
theorem V4 (l:List Int):Bi l=Kp (fun a b=>a==b) 0 l:=rfl
theorem Rj {l:List Int}{ρ:Type}{K:List Int->Option ρ}(hl:l.length<=1000000):(Option.bind (LU l) fun v=>Option.bind (Bi v) K)=K (srt l):=by
 obtain⟨r,h,h1,h2⟩:=Yj (l:=l) (by omega)
 rw[h,AC,V4]
 obtain⟨c,g,g1,g2⟩:=Jt (lt:=ltI) (e:=fun a b:Int=>a==b) (zz:=0) P4 UD Xj (fun a b=>beq_iff_eq) (l:=r) h2 (by rw[h1.length_eq];omega)
 rw[g,AC,Asc.uniq (l:=l) ⟨g1,fun x=>(g2 x).trans h1.mem_iff⟩ (Xq hl)]
def Hv (p:List JAC)(set:Bool)(l:List Int):List JAC:=
 if set then p++[⟨true,srt l⟩] else match p.getLast? with
  | some s=>if s.Set then p++[⟨false,l⟩] else p.dropLast++[⟨false,s.ASNs++l⟩]
  | none=>[⟨false,l⟩]
def KA:Nat->List UInt8->List JAC->Option (List JAC)
 | _,[],p=>some p
 | n+1,k::c::t,p=>if (k.toNat≠1/\k.toNat≠2)\/c.toNat=0\/t.length<4*c.toNat then none else KA n (t.drop (4*c.toNat)) (Hv p (k.toNat==1) (nums (t.take (4*c.toNat))))
 | _,_,_=>none
theorem OM (n:Nat)(p:List JAC):KA n [] p=some p:=by cases n<;>rfl
theorem QX :∀(n m:Nat) (b:List UInt8) (p:List JAC),b.length<=n->b.length<=m->KA n b p=KA m b p
 | n,m,[],p,_,_=>by rw[OM,OM]
 | n+1,m+1,[x],p,_,_=>rfl
 | n+1,m+1,k::c::t,p,h1,h2=>by
  simp only[X12] at h1 h2
  simp only[KA]
  split
  ·rfl
  exact QX n m _ _ (by simp only[X17];omega) (by simp only[X17];omega)
 | 0,_,_::_,_,h,_=>by simp at h
 | _,0,_::_,_,_,h=>by simp at h
def rdL (b:List UInt8)(p:List JAC):Option (List JAC):=KA b.length b p
def Oc (k c:UInt8)(t:List UInt8):Bool:=decide ((k.toNat≠1/\k.toNat≠2)\/c.toNat=0\/t.length<4*c.toNat)
theorem bg (p:List JAC):rdL [] p=some p:=rfl
theorem Y5 (k c:UInt8)(t:List UInt8)(p:List JAC):rdL (k::c::t) p=if Oc k c t=true then none else rdL (t.drop (4*c.toNat)) (Hv p (k.toNat==1) (nums (t.take (4*c.toNat)))):=by
 unfold rdL Oc
 simp only[X12,KA,decide_eq_true_eq]
 split
 ·rfl
 exact QX _ _ _ _ (by simp only[X17];omega) (by simp only[X17];omega)
def Lk (p:List JAC)(i:Nat)(l:List Int):Prop:=p=[] \/∃q s,p=q++[⟨s,l⟩]/\i=q.length
theorem Qe {x:UInt8}{t:List UInt8}:geti (x::t) 0=some x:=C0 (l:=x::t) (i:=0) (by simp)
theorem Uj {x y:UInt8}{t:List UInt8}:geti (x::y::t) 1=some y:=C0 (l:=x::y::t) (i:=1) (by simp)
theorem eV (c:UInt8):AN (2+AN (4*(c.toNat:Int)))=((2+4*c.toNat:Nat):Int):=by
 have:=c.toNat_lt
 rw[AO (x:=4*(c.toNat:Int)) (by omega),AO (by omega)]
 omega
theorem QL (p:List JAC)(l:List Int):Hv p true l=p++[⟨true,srt l⟩]:=rfl
theorem QH (l:List Int):Hv [] false l=[⟨false,l⟩]:=rfl
theorem Jk (q:List JAC)(m l:List Int):Hv (q++[⟨true,m⟩]) false l=q++[⟨true,m⟩]++[⟨false,l⟩]:=by
 unfold Hv;simp
theorem O5 (q:List JAC)(m l:List Int):Hv (q++[⟨false,m⟩]) false l=q++[⟨false,m++l⟩]:=by
 unfold Hv;simp
theorem YC {l:List Int}(hl:l.length<=1000000):(srt l).length<=l.length:=by
 obtain⟨h1,h2⟩:=Xq hl
 refine Sj (h1.imp fun {a b} h e=>?_) fun x hx=>(h2 x).1 hx
 subst e
 rw[P4] at h;simp at h
theorem YA {α:Type}{q:List α}{x:α}(h:q.length<=1000000000):AN (((q++[x]).length:Int)-1)=(q.length:Int):=by
 rw[AO (by simp;omega)]
 simp
theorem bf {α:Type}(q:List α)(x y:α):seti (q++[x]) (q.length:Int) y=some (q++[y]):=by
 unfold seti
 rw[if_pos (by simp;omega)]
 simp
theorem ZR {k c:UInt8}{t:List UInt8}(hlen:t.length<=1000000){ρ:Type}(K:Bool->Option ρ) :
  AI (τ:=Bool) (fun q=>if (decide (((k::c::t).length:Int)<2))=true then q true else
   Option.bind (geti (k::c::t) 0) fun v37=>
   if ((v37.toNat:Int) != 1)=true then
    Option.bind (geti (k::c::t) 0) fun v38=>
    if (cond false true (cond true ((v38.toNat:Int) != 2) false))=true then q true else
     Option.bind (geti (k::c::t) 1) fun v39=>
     if (cond false true (decide (((k::c::t).length:Int)<(AN (2+(AN (4*(v39.toNat:Int))))))))=true then q true else
      Option.bind (geti (k::c::t) 1) fun v40=>
      q (cond false true ((v40.toNat:Int)==0))
   else
    Option.bind (geti (k::c::t) 1) fun v41=>
    if (cond false true (decide (((k::c::t).length:Int)<(AN (2+(AN (4*(v41.toNat:Int))))))))=true then q true else
     Option.bind (geti (k::c::t) 1) fun v42=>
     q (cond false true ((v42.toNat:Int)==0))) K=K (Oc k c t):=by
 rw[AH,if_neg (by simp;omega)]
 simp only[Qe,Uj,AC,eV,cond_true,cond_false]
 unfold Oc
 have e1:((k.toNat:Int) != 1)=decide (k.toNat≠1):=by rw[X28];simp;omega
 have e2:((k.toNat:Int) != 2)=decide (k.toNat≠2):=by rw[X28];simp;omega
 have e3:((c.toNat:Int)==0)=decide (c.toNat=0):=by rw[X28];simp
 have e4:decide (((k::c::t).length:Int)<((2+4*c.toNat:Nat):Int))=decide (t.length<4*c.toNat):=by rw[X28];simp only[X12,decide_eq_true_eq];omega
 rw[e1,e2,e3,e4]
 by_cases h1:k.toNat=1<;>by_cases h2:k.toNat=2<;>by_cases h3:c.toNat=0<;>by_cases h4:t.length < 4*c.toNat<;>first | (exfalso;omega)|simp[h1,h2,h3,h4]
theorem bo {p:List JAC}(hp:p.length<=1000000){ρ:Type}(K:Bool->Option ρ) :
  AI (τ:=Bool) (fun q=>if (decide ((p.length:Int) > 0))=true then Option.bind (geti p (AN ((p.length:Int)-1))) fun v=>q (cond true (!v.Set) false) else q false) K=K (match p.getLast? with | some s=>!s.Set | none=>false):=by
 rcases List.eq_nil_or_concat p with rfl | ⟨q,s,rfl⟩
 ·rfl
 rw[List.concat_eq_append] at hp ⊢
 rw[AH,if_pos (by simp),YA (by simp at hp;omega),M9,AC]
 simp
theorem YM {k c:UInt8}{t:List UInt8}(h:4*c.toNat<=t.length):part (k::c::t) ((2+4*c.toNat:Nat):Int) ((k::c::t).length:Int)=some (t.drop (4*c.toNat)):=by
 rw[EZ (by simp;omega) (Nat.le_refl _)]
 rw[show 2+4*c.toNat=4*c.toNat+1+1 by omega,List.drop_succ_cons,List.drop_succ_cons,List.take_of_length_le (by simp)]
end Go.AX.Q19
end
section
namespace Go.AX
section
variable {α ρ:Type}
def chainB (lt:α->α->Bool):List α->Bool
 | x::y::t=>lt x y&&chainB lt (y::t)
 | _=>true
theorem Js (lt:α->α->Bool)(x y:α)(t:List α):chainB lt (x::y::t)=(lt x y&&chainB lt (y::t)):=rfl
theorem QQ (lt:α->α->Bool)(x:α):chainB lt [x]=true:=rfl
theorem Hj {lt:α->α->Bool}(htr :∀a b c,lt a b=true->lt b c=true->lt a c=true) :∀{l:List α},chainB lt l=true↔l.Pairwise fun a b=>lt a b=true
 | []=>by simp[chainB]
 | [x]=>by simp[chainB]
 | x::y::t=>by
  rw[Js,X27,Hj htr (l:=y::t),List.pairwise_cons (a:=x)]
  constructor
  ·rintro⟨h1,h2⟩
   refine⟨fun z hz=>?_,h2⟩
   rcases List.mem_cons.1 hz with e | hz
   ·rw[e];exact h1
   exact htr _ _ _ h1 ((List.pairwise_cons.1 h2).1 z hz)
  rintro⟨h1,h2⟩
  exact⟨h1 y (by simp),h2⟩
theorem cA {ok:α->Bool}{lt:α->α->Bool}{l:List α}{K:Unit->Option ρ}{F:Option ρ}{body:(Unit->Option ρ)->α->Nat->Unit->Option ρ}(hl:l.length<=1000000000000)
  (h0 :∀next x,x∈l->body next x 0 ()=if ok x then next () else F)
  (h1 :∀next x y i,x∈l->y∈l->geti l (AN (((i+1:Nat):Int)-1))=some y->body next x (i+1) ()=if ok x&&lt y x then next () else F) :
  An K body l 0 ()=if l.all ok&&chainB lt l then K () else F:=by
 have key :∀(t p:List α) (y:α),l=p++y::t->An K body t (p.length+1) ()=if t.all ok&&chainB lt (y::t) then K () else F:=by
  intro t
  induction t with
  | nil=>intro p y _;rw[QQ];rfl
  | cons x t ih=>
   intro p y e
   show body (fun s=>An K body t (p.length+1+1) s) x (p.length+1) ()=_
   have hlen:p.length<l.length:=by rw[e];simp
   rw[h1 _ x y p.length (by rw[e];simp) (by rw[e];simp) (by
    rw[AO (by omega),show ((p.length+1:Nat):Int)-1=(p.length:Int) by omega,e]
    exact M9 p y (x::t))]
   have:=ih (p++[y]) x (by rw[e];simp)
   rw[X11,X22] at this
   rw[this,Js,List.all_cons]
   generalize chainB lt (x::t)=c1
   generalize t.all ok=c2
   cases ok x<;>cases lt y x<;>cases c1<;>cases c2<;>rfl
 match l,h0,h1,key with
 | [],_,_,_=>rfl
 | x::t,h0,_,key=>
  show body (fun s=>An K body t (0+1) s) x 0 ()=_
  rw[h0 _ x (by simp)]
  have:=key t [] x rfl
  rw[X13] at this
  rw[this,List.all_cons]
  generalize chainB lt (x::t)=c1
  generalize t.all ok=c2
  cases ok x<;>cases c1<;>cases c2<;>rfl
theorem da {σ:Type}{g:σ->α->σ}{ok:α->Bool}{lt:α->α->Bool}{l:List α}{s0:σ}{K:σ->Option ρ}{F:Option ρ}{body:(σ->Option ρ)->α->Nat->σ->Option ρ}(hl:l.length<=1000000000000)
  (h0 :∀next x s,x∈l->body next x 0 s=if ok x then next (g s x) else F)
  (h1 :∀next x y i s,x∈l->y∈l->geti l (AN (((i+1:Nat):Int)-1))=some y->body next x (i+1) s=if ok x&&lt y x then next (g s x) else F) :
  An K body l 0 s0=if l.all ok&&chainB lt l then K (l.foldl g s0) else F:=by
 have key :∀(t p:List α) (y:α) (s:σ),l=p++y::t->An K body t (p.length+1) s=if t.all ok&&chainB lt (y::t) then K (t.foldl g s) else F:=by
  intro t
  induction t with
  | nil=>intro p y s _;rw[QQ];rfl
  | cons x t ih=>
   intro p y s e
   show body (fun s=>An K body t (p.length+1+1) s) x (p.length+1) s=_
   have hlen:p.length<l.length:=by rw[e];simp
   rw[h1 _ x y p.length s (by rw[e];simp) (by rw[e];simp) (by
    rw[AO (by omega),show ((p.length+1:Nat):Int)-1=(p.length:Int) by omega,e]
    exact M9 p y (x::t))]
   have:=ih (p++[y]) x (g s x) (by rw[e];simp)
   rw[X11,X22] at this
   rw[this,Js,List.all_cons,List.foldl_cons]
   generalize chainB lt (x::t)=c1
   generalize t.all ok=c2
   cases ok x<;>cases lt y x<;>cases c1<;>cases c2<;>rfl
 match l,h0,h1,key with
 | [],_,_,_=>rfl
 | x::t,h0,_,key=>
  show body (fun s=>An K body t (0+1) s) x 0 s0=_
  rw[h0 _ x s0 (by simp)]
  have:=key t [] x (g s0 x) rfl
  rw[X13] at this
  rw[this,List.all_cons,List.foldl_cons]
  generalize chainB lt (x::t)=c1
  generalize t.all ok=c2
  cases ok x<;>cases c1<;>cases c2<;>rfl
theorem RS {β:Type}{g:β->List α}{N:Nat}{body:(List α->Option ρ)->β->Nat->List α->Option ρ}{K:List α->Option ρ} :∀{l:List β} {i:Nat} {v:List α},v.length+(l.flatMap g).length<=N->
  (∀next x i v,x∈l->v.length+(g x).length<=N->body next x i v=next (v++g x))->An K body l i v=K (v++l.flatMap g)
 | [],i,v,_,_=>by rw[List.flatMap_nil,List.append_nil];rfl
 | x::t,i,v,h,hb=>by
  rw[List.flatMap_cons,X11] at h
  show body (fun s=>An K body t (i+1) s) x i v=_
  rw[hb _ x i v (by simp) (by omega),RS (l:=t) (by rw[X11];omega) fun next y j w hy hw=>hb next y j w (X19 _ hy) hw,List.flatMap_cons,List.append_assoc]
def canon (e lt:α->α->Bool)(l:List α):List α:=l.foldl (fun acc x=>if acc.any (fun y=>e y x) then acc else Gj lt acc x) []
theorem XY (e lt:α->α->Bool)(l:List α)(x:α):canon e lt (l++[x])=if (canon e lt l).any (fun y=>e y x) then canon e lt l else Gj lt (canon e lt l) x:=by
 unfold canon
 rw[List.foldl_append]
 rfl
theorem Lq {e lt:α->α->Bool}(he :∀a b,e a b=true↔a=b)(htr :∀a b c,lt a b=true->lt b c=true->lt a c=true)(htot :∀a b,lt a b=false->a=b\/lt b a=true)(l:List α) :
  (canon e lt l).Pairwise (fun a b=>lt a b=true)/\(∀x,x∈canon e lt l↔x∈l)/\(canon e lt l).length<=l.length:=by
 rw[<- List.reverse_reverse l]
 generalize l.reverse=m
 induction m with
 | nil=>exact⟨.nil,by simp[canon],by simp[canon]⟩
 | cons x t ih=>
  obtain⟨h1,h2,h3⟩:=ih
  rw[List.reverse_cons,XY]
  by_cases hx:(canon e lt t.reverse).any (fun y=>e y x)=true
  ·rw[if_pos hx]
   obtain⟨y,hy,hyx⟩:=List.any_eq_true.1 hx
   have:=(he _ _).1 hyx
   subst this
   refine⟨h1,fun z=>?_,by simp only[X11];omega⟩
   rw[X23,h2 z,X14]
   refine⟨.inl,fun q=>q.elim id fun e=>?_⟩
   rw[e];exact (h2 _).1 hy
  rw[if_neg hx]
  have hx:x∉canon e lt t.reverse:=fun q=>hx (List.any_eq_true.2 ⟨x,q,(he _ _).2 rfl⟩)
  refine⟨IY htr htot h1 hx,fun z=>?_,by rw[HB];simp only[X11,X22];omega⟩
  rw[Fb,X23,h2 z,X14]
theorem QN {e lt:α->α->Bool}(he :∀a b,e a b=true↔a=b)(hirr :∀a,lt a a=false)(htr :∀a b c,lt a b=true->lt b c=true->lt a c=true)(htot :∀a b,lt a b=false->a=b\/lt b a=true)
  {l r:List α} (h1:r.Pairwise fun a b=>lt a b=true) (h2 :∀x,x∈r↔x∈l):r=canon e lt l:=by
 obtain⟨g1,g2,_⟩:=Lq he htr htot l
 exact I6 (lt:=fun a b=>lt a b=true) (fun a h=>by rw[hirr] at h;simp at h) htr h1 g1 fun x=>(h2 x).trans (g2 x).symm
end
end Go.AX
end
section
namespace Go.AX.Q19
open Go Go.AX
theorem LF (a b:Int):cmp_Compare_int a b=some (Zr a b):=by
 unfold cmp_Compare_int cmp_isNaN_int Zr
 simp only[AC,bne_self_eq_false,Bool.false_eq_true,if_false,decide_eq_true_eq,gt_iff_lt]
 split<;>(try split)<;>rfl
theorem ae (l:List Int):E8 l=some (orI l):=by
 unfold E8
 rw[AH]
 have key :∀(l:List Int) (i:Nat),An (σ:=Unit) (fun _=>some (0:Int)) (fun next x _ _=>if (x != 0)=true then some x else next ()) l i ()=some (orI l):=by
  intro l
  induction l with
  | nil=>intro i;rfl
  | cons x t ih=>
   intro i
   show (if (x != 0)=true then some x else An _ _ t (i+1) ())=_
   rw[ih]
   rw[WV]
   by_cases h:x=0<;>simp[h]
 exact key l 0
def RO (c:JAB):List Int:=[c.A,c.B]
def QI (c:JAF):List Int:=[c.A,c.B,c.C]
theorem QR (a b:JAB):(RO a).length=(RO b).length:=rfl
theorem Qv (a b:JAF):(QI a).length=(QI b).length:=rfl
theorem Za {a b:JAB}(h:RO a=RO b):a=b:=by
 simp only[RO,List.cons.injEq,and_true] at h
 cases a;cases b;simp_all
theorem Zf {a b:JAF}(h:QI a=QI b):a=b:=by
 simp only[QI,List.cons.injEq,and_true] at h
 cases a;cases b;simp_all
def Jq:JAB->JAB->Bool:=ltK RO
def Jm:JAF->JAF->Bool:=ltK QI
theorem WI (a:JAB):Jq a a=false:=NX a
theorem Vq (a:JAF):Jm a a=false:=NX a
theorem NW (a b c:JAB)(h1:Jq a b=true)(h2:Jq b c=true):Jq a c=true:=Oi QR a b c h1 h2
theorem NR (a b c:JAF)(h1:Jm a b=true)(h2:Jm b c=true):Jm a c=true:=Oi Qv a b c h1 h2
theorem NT (a b:JAB)(h:Jq a b=false):a=b\/Jq b a=true:=(ND QR a b h).imp_left Za
theorem NL (a b:JAF)(h:Jm a b=false):a=b\/Jm b a=true:=(ND Qv a b h).imp_left Zf
theorem Zm (a b:JAB):JAB.eqd a b=true↔a=b:=by
 unfold JAB.eqd
 simp only[X27,Bool.and_true,beq_iff_eq]
 constructor
 ·rintro⟨h1,h2⟩;cases a;cases b;simp_all
 rintro rfl;exact⟨rfl,rfl⟩
theorem Y9 (a b:JAF):JAF.eqd a b=true↔a=b:=by
 unfold JAF.eqd
 simp only[X27,Bool.and_true,beq_iff_eq]
 constructor
 ·rintro⟨h1,h2,h3⟩;cases a;cases b;simp_all
 rintro rfl;exact⟨rfl,rfl,rfl⟩
theorem VR (a b:JAB):Dy a b=some (FU (RO a) (RO b)):=by
 unfold Dy
 rw[LF,AC,LF,AC,ae,AC,Nc,Nc]
 rfl
theorem WJ (a b:JAF):CG a b=some (FU (QI a) (QI b)):=by
 unfold CG
 rw[LF,AC,LF,AC,LF,AC,ae,AC,Nc,Nc,Nc]
 rfl
theorem YZ (a b:JAB):BU a b=some (FU (RO a) (RO b)):=VR a b
theorem Yr (a b:JAF):CU a b=some (FU (QI a) (QI b)):=WJ a b
theorem Vs (a b:JAB):EU a b=some (Jq a b):=by
 unfold EU Jq ltK RO
 rw[AH]
 simp only[FU,decide_eq_true_eq,beq_iff_eq,cond_true,cond_false]
 by_cases a1:a.A < b.A<;>by_cases a2:a.A=b.A<;>by_cases a3:b.A < a.A<;>by_cases b1:a.B < b.B<;>by_cases b3:b.B < a.B<;>first | (exfalso;omega)|simp[a1,a2,a3,b1,b3]
theorem VX (a b:JAF):Bz a b=some (Jm a b):=by
 unfold Bz Jm ltK QI
 simp only[AH]
 simp only[FU,decide_eq_true_eq,beq_iff_eq,cond_true,cond_false]
 by_cases a1:a.A < b.A<;>by_cases a2:a.A=b.A<;>by_cases a3:b.A < a.A<;>by_cases b1:a.B < b.B<;>by_cases b2:a.B=b.B<;>by_cases b3:b.B < a.B<;>by_cases c1:a.C < b.C<;>by_cases c3:b.C < a.C<;>first | (exfalso;omega)|simp[a1,a2,a3,b1,b2,b3,c1,c3]
def inR (m x:Int):Bool:=decide (0<=x)&&decide (x<=m)
def okC (c:JAB):Bool:=inR 65535 c.A&&inR 65535 c.B
def okL (c:JAF):Bool:=inR 4294967295 c.A&&(inR 4294967295 c.B&&inR 4294967295 c.C)
theorem TV (c:JAB):EO c=some (okC c):=by
 unfold EO okC inR
 rw[AH]
 simp only[decide_eq_true_eq,cond_true,ge_iff_le]
 by_cases a1:0<=c.A<;>by_cases a2:c.A<=65535<;>by_cases a3:0<=c.B<;>by_cases a4:c.B<=65535<;>simp[a1,a2,a3,a4]
theorem S7 (c:JAF):B5 c=some (okL c):=by
 unfold B5 okL inR
 rw[AH]
 simp only[decide_eq_true_eq,cond_true,ge_iff_le]
 by_cases a1:0<=c.A<;>by_cases a2:c.A<=4294967295<;>by_cases a3:0<=c.B<;>by_cases a4:c.B<=4294967295<;>by_cases a5:0<=c.C<;>by_cases a6:c.C<=4294967295<;>simp[a1,a2,a3,a4,a5,a6]
theorem mmR {g:Int->Int->Int}{x:Int}{t:List Int}(hl:t.length<=1000000000) :
  AI (τ:=Int) (fun k2=>A2 (σ:=Int×Int) (fun next3 p=>match p with
   | (v4,v5)=>if (decide (v5<((x::t).length:Int)))=true then Option.bind (geti (x::t) v5) fun v6=>next3 (g v4 v6,(AN (v5+1))) else k2 v4) fuel (x,1)) (fun v=>some v)=some (t.foldl g x):=by
 rw[AH]
 refine (DU (fun s:Int×Int=>∃j:Nat,s.2=(j+1:Nat)/\j<=t.length) (fun s=>((x::t).length-s.2).toNat) (fun s=>some ((t.drop (s.2.toNat-1)).foldl g s.1)) ?_ fuel (x,1) ⟨0,rfl,Nat.zero_le _⟩ (BY (by simp;omega))).trans rfl
 rintro next ⟨m,i⟩ ⟨j,h1,h2⟩ hn
 dsimp only at h1
 subst h1
 dsimp only
 have e1:((j+1:Nat):Int).toNat-1=j:=by omega
 rw[e1]
 by_cases hj:j<t.length
 ·rw[if_pos (by simp only[X12,decide_eq_true_eq];omega),C0 (by simp;omega),AC,AO (by omega)]
  rw[hn _ ⟨j+1,by simp,by omega⟩ (by simp only[X12];omega)]
  have e2:(((j+1:Nat):Int)+1).toNat-1=j+1:=by omega
  simp only[e2,List.getElem_cons_succ]
  rw[List.drop_eq_getElem_cons hj,List.foldl_cons]
 rw[if_neg (by simp only[X12,decide_eq_true_eq];omega),List.drop_eq_nil_of_le (by omega)]
 rfl
def mn (a b:Int):Int:=if b<a then b else a
def mx (a b:Int):Int:=if b > a then b else a
theorem cN {x:Int}{t:List Int}(hl:t.length<=1000000000):Dh (x::t)=some (t.foldl mn x):=by
 unfold Dh
 rw[if_neg (by simp;omega),show geti (x::t) 0=some x from C0 (l:=x::t) (i:=0) (by simp),AC]
 exact mmR (g:=mn) hl
theorem cM {x:Int}{t:List Int}(hl:t.length<=1000000000):Db (x::t)=some (t.foldl mx x):=by
 unfold Db
 rw[if_neg (by simp;omega),show geti (x::t) 0=some x from C0 (l:=x::t) (i:=0) (by simp),AC]
 exact mmR (g:=mx) hl
theorem Z1 (n:Int) :∀(t:List Int) (x:Int),decide (n<=t.foldl mn x)=(x::t).all fun y=>decide (n<=y)
 | [],x=>by rw[List.all_cons,List.all_nil,Bool.and_true];rfl
 | y::t,x=>by
  rw[List.foldl_cons,Z1 n t (mn x y)]
  simp only[List.all_cons]
  unfold mn
  rw[X28]
  simp only[X27,decide_eq_true_eq]
  constructor
  ·rintro⟨h1,h2⟩;split at h1<;>exact⟨by omega,by omega,h2⟩
  rintro⟨h1,h2,h3⟩;split<;>exact⟨by omega,h3⟩
theorem ZA (n:Int) :∀(t:List Int) (x:Int),decide (t.foldl mx x<=n)=(x::t).all fun y=>decide (y<=n)
 | [],x=>by rw[List.all_cons,List.all_nil,Bool.and_true];rfl
 | y::t,x=>by
  rw[List.foldl_cons,ZA n t (mx x y)]
  simp only[List.all_cons]
  unfold mx
  rw[X28]
  simp only[X27,decide_eq_true_eq]
  constructor
  ·rintro⟨h1,h2⟩;split at h1<;>exact⟨by omega,by omega,h2⟩
  rintro⟨h1,h2,h3⟩;split<;>exact⟨by omega,h3⟩
theorem RP {m x:Int}{t:List Int}(hl:t.length<=1000000000):DY m (x::t)=some ((x::t).all (inR m)):=by
 unfold DY
 rw[AH,cN hl,AC,cM hl]
 have e:(x::t).all (inR m)=(decide (0<=t.foldl mn x)&&decide (t.foldl mx x<=m)):=by
  rw[Z1,ZA,X28,X27]
  simp only[List.all_eq_true,inR,X27]
  exact⟨fun h=>⟨fun y hy=>(h y hy).1,fun y hy=>(h y hy).2⟩,fun h y hy=>⟨h.1 y hy,h.2 y hy⟩⟩
 rw[e]
 by_cases h:0<=t.foldl mn x
 ·rw[if_pos (by simpa using h),AC,decide_eq_true h];rfl
 rw[if_neg (by simpa using h),decide_eq_false h];rfl
theorem aC (c:JAB):Ew c=some (okC c):=by
 unfold Ew
 rw[RP (by simp),AC]
 simp[okC]
theorem Zi (c:JAF):DF c=some (okL c):=by
 unfold DF
 rw[RP (by simp),AC]
 simp[okL]
def Ee (l:List JAB):Bool:=l.all okC&&chainB Jq l&&decide (l.length<=64)
def Ef (l:List JAF):Bool:=l.all okL&&chainB Jm l&&decide (l.length<=64)
theorem cD {X:Type}{key:X->List Int}(a b:X):decide (FU (key a) (key b) ≥ 0)=!ltK key a b:=by
 unfold ltK
 rw[X28]
 simp
theorem bz {α:Type}{ok:α->Bool}{lt:α->α->Bool}{l:List α}(hl:l.length<=1000000000){body:(Unit->Option Bool)->α->Nat->Unit->Option Bool}
  (h :∀next x i,body next x i ()=AI (τ:=Bool) (fun k5=>Option.bind (some (ok x)) fun v6=>if (!v6)=true then k5 true else if (decide ((i:Int) > 0))=true then Option.bind (geti l (AN ((i:Int)-1))) fun v7=>Option.bind (some (lt v7 x)) fun v8=>k5 (cond false true (cond true (!v8) false)) else k5 false) fun v9=>if v9=true then some false else next ()) :
  (AI (τ:=Unit) (fun k1=>An (σ:=Unit) (fun _=>k1 ()) body l 0 ()) fun _=>some (decide ((l.length:Int)<=64)))=some (l.all ok&&chainB lt l&&decide (l.length<=64)):=by
 rw[AH,cA (ok:=ok) (lt:=lt) (F:=some false) (by omega)]
 ·have e:decide ((l.length:Int)<=64)=decide (l.length<=64):=by rw[X28];simp;omega
  rw[e]
  generalize (l.all ok&&chainB lt l)=b
  cases b<;>rfl
 ·intro next x _
  rw[h,AH,AC]
  cases ok x<;>rfl
 intro next x y i _ _ hg
 rw[h,AH,AC,hg,AC,AC,if_pos (show decide (((i+1:Nat):Int) > 0)=true by simp)]
 cases ok x<;>cases lt y x<;>rfl
theorem J7 {l:List JAB}(hl:l.length<=1000000000):Et l=some (Ee l):=by
 unfold Et Ee
 exact bz hl fun next x i=>by simp only[TV,Vs]
theorem HS {l:List JAF}(hl:l.length<=1000000000):Cb l=some (Ef l):=by
 unfold Cb Ef
 exact bz hl fun next x i=>by simp only[S7,VX]
theorem Hu {l:List JAB}(hl:l.length<=1000000000):C7 l=some (Ee l):=by
 unfold C7 Ad Ee
 rw[bz (ok:=okC) (lt:=Jq) hl fun next x i=>by simp only[aC,VR,AC,cD];rfl]
 rfl
theorem F9 {l:List JAF}(hl:l.length<=1000000000):Bd l=some (Ef l):=by
 unfold Bd AZ Ef
 rw[bz (ok:=okL) (lt:=Jm) hl fun next x i=>by simp only[Zi,WJ,AC,cD];rfl]
 rfl
theorem Fq {l:List JAB}:Ee l=true↔(∀c∈l,okC c=true)/\(l.Pairwise fun a b=>Jq a b=true)/\l.length<=64:=by
 unfold Ee
 rw[X27,X27,Hj NW,List.all_eq_true,decide_eq_true_eq,and_assoc]
theorem Fh {l:List JAF}:Ef l=true↔(∀c∈l,okL c=true)/\(l.Pairwise fun a b=>Jm a b=true)/\l.length<=64:=by
 unfold Ef
 rw[X27,X27,Hj NR,List.all_eq_true,decide_eq_true_eq,and_assoc]
theorem ca {α:Type}{e:α->α->Bool}{x:α} :∀(l:List α) (i:Nat),An (σ:=Unit) (fun _=>some false) (fun (next:Unit->Option Bool) (y:α) _ _=>if e y x=true then some true else next ()) l i ()=some (l.any fun y=>e y x)
 | [],_=>rfl
 | y::t,i=>by
  show (if e y x=true then some true else An _ _ t (i+1) ())=_
  rw[ca t (i+1),List.any_cons]
  cases e y x<;>rfl
theorem UL (l:List JAB)(c:JAB):Gm l c=some (l.any fun y=>JAB.eqd y c):=by
 unfold Gm
 rw[AH]
 exact ca l 0
theorem Mc (l:List JAF)(c:JAF):Di l c=some (l.any fun y=>JAF.eqd y c):=by
 unfold Di
 rw[AH]
 exact ca l 0
theorem Qi {α:Type}{l:List α}{n:Nat}(h:n<=l.length):part l 0 (n:Int)=some (l.take n):=by
 have:=EZ (l:=l) (a:=0) (b:=n) (by omega) h
 simpa using this
theorem Hn {α:Type}{l:List α}{n:Nat}(h:n<=l.length):part l (n:Int) (l.length:Int)=some (l.drop n):=by
 rw[EZ h (Nat.le_refl _),List.take_of_length_le (by simp)]
theorem Re {α:Type}{b:Nat}{lt:α->α->Bool}{l:List α}{x:α}(hb:Nat.ble b 65536=true)(hl:l.length+1<=1000000000){ρ:Type}{K:List α->Option ρ} :
  (Option.bind (part l 0 ((l.takeWhile (lt · x)).length:Int)) fun v14=>Option.bind (apnd (α:=α) b [] v14) fun _=>Option.bind (apnd (α:=α) b v14 ([x]:List α)) fun v15=>Option.bind (part l ((l.takeWhile (lt · x)).length:Int) (l.length:Int)) fun v16=>Option.bind (apnd (α:=α) b v15 v16) K)=K (Gj lt l x):=by
 have ht:=Gt (lt · x) l
 obtain⟨h1,h2⟩:=takeWhile_take (lt · x) l
 rw[Qi (by omega),AC,AP hb (by simp;omega),AC,AP hb (by simp;omega),AC,Hn (by omega),AC,AP hb (by simp;omega),AC,h1,h2]
 unfold Gj
 simp
def YK:List JAB->List JAB:=canon JAB.eqd Jq
def YR:List JAF->List JAF:=canon JAF.eqd Jm
theorem Ur {l:List JAB}{c:JAB}(hv:Ee l=true)(hc:okC c=true)(hl:l.length<64):It l c=some (if l.any (fun y=>JAB.eqd y c)=true then l else Gj Jq l c,0):=by
 unfold It
 rw[AH,J7 (by omega),AC,hv,if_neg (by decide),TV,AC,hc]
 show (if (bif false then true else !true)=true then _ else _)=_
 rw[if_neg (by decide),UL,AC]
 by_cases h:(l.any fun y=>JAB.eqd y c)=true
 ·rw[if_pos h,if_pos h,AP (by decide) (by simp;omega),AC]
 rw[if_neg h,if_neg h,if_neg (by simp;omega)]
 rw[ay (p:=(Jq · c)) (fun y k9=>Option.bind (EU y c) fun v11=>k9 (cond true v11 false)) (by omega) (fun y _ k=>by rw[Vs];rfl)]
 exact Re (K:=fun v17=>some (v17,0)) (by decide) (by omega)
theorem NI {l:List JAF}{c:JAF}(hv:Ef l=true)(hc:okL c=true)(hl:l.length<64):FC l c=some (if l.any (fun y=>JAF.eqd y c)=true then l else Gj Jm l c,0):=by
 unfold FC
 rw[AH,HS (by omega),AC,hv,if_neg (by decide),S7,AC,hc]
 show (if (bif false then true else !true)=true then _ else _)=_
 rw[if_neg (by decide),Mc,AC]
 by_cases h:(l.any fun y=>JAF.eqd y c)=true
 ·rw[if_pos h,if_pos h,AP (by decide) (by simp;omega),AC]
 rw[if_neg h,if_neg h,if_neg (by simp;omega)]
 rw[ay (p:=(Jm · c)) (fun y k9=>Option.bind (Bz y c) fun v11=>k9 (cond true v11 false)) (by omega) (fun y _ k=>by rw[VX];rfl)]
 exact Re (K:=fun v17=>some (v17,0)) (by decide) (by omega)
theorem Su (l:List JAB):(YK l).Pairwise (fun a b=>Jq a b=true)/\(∀x,x∈YK l↔x∈l)/\(YK l).length<=l.length:=Lq Zm NW NT l
theorem Tj (l:List JAF):(YR l).Pairwise (fun a b=>Jm a b=true)/\(∀x,x∈YR l↔x∈l)/\(YR l).length<=l.length:=Lq Y9 NR NL l
theorem Q5 {l:List JAB}(h :∀c∈l,okC c=true)(hl:l.length<=64):Ee (YK l)=true:=by
 obtain⟨h1,h2,h3⟩:=Su l
 exact Fq.2 ⟨fun c hc=>h c ((h2 c).1 hc),h1,by omega⟩
theorem Qn {l:List JAF}(h :∀c∈l,okL c=true)(hl:l.length<=64):Ef (YR l)=true:=by
 obtain⟨h1,h2,h3⟩:=Tj l
 exact Fh.2 ⟨fun c hc=>h c ((h2 c).1 hc),h1,by omega⟩
theorem SD {l:List JAB}(hl:l.length<=1000000){ρ:Type}{K:List JAB->Option ρ}:(Option.bind (EM BU l) fun v=>Option.bind (Av v) K)=K (YK l):=by
 obtain⟨r,h,h1,h2⟩:=MS QR YZ (l:=l) (by omega)
 rw[h,AC]
 obtain⟨c,g,g1,g2⟩:=Jt (lt:=Jq) (e:=JAB.eqd) (zz:=⟨0,0⟩) WI NW NT Zm (l:=r) h2 (by rw[h1.length_eq];omega)
 have e:Av r=Kp JAB.eqd ⟨0,0⟩ r:=rfl
 rw[e,g,AC,QN (l:=l) Zm WI NW NT g1 fun x=>(g2 x).trans h1.mem_iff]
 rfl
theorem Rx {l:List JAF}(hl:l.length<=1000000){ρ:Type}{K:List JAF->Option ρ}:(Option.bind (EM CU l) fun v=>Option.bind (BA v) K)=K (YR l):=by
 obtain⟨r,h,h1,h2⟩:=MS Qv Yr (l:=l) (by omega)
 rw[h,AC]
 obtain⟨c,g,g1,g2⟩:=Jt (lt:=Jm) (e:=JAF.eqd) (zz:=⟨0,0,0⟩) Vq NR NL Y9 (l:=r) h2 (by rw[h1.length_eq];omega)
 have e:BA r=Kp JAF.eqd ⟨0,0,0⟩ r:=rfl
 rw[e,g,AC,QN (l:=l) Y9 Vq NR NL g1 fun x=>(g2 x).trans h1.mem_iff]
 rfl
def comms:List UInt8->List JAB
 | a::b::c::d::t=>⟨GK [a,b],GK [c,d]⟩::comms t
 | _=>[]
def DC:List Int->List JAF
 | a::b::c::t=>⟨a,b,c⟩::DC t
 | _=>[]
theorem L2 (a b c d:UInt8)(t:List UInt8):comms (a::b::c::d::t)=⟨GK [a,b],GK [c,d]⟩::comms t:=rfl
theorem KT (a b c:Int)(t:List Int):DC (a::b::c::t)=⟨a,b,c⟩::DC t:=rfl
theorem OS :∀l:List UInt8,(comms l).length=l.length/4
 | a::b::c::d::t=>by
  rw[L2,X12,OS t]
  simp only[X12]
  omega
 | []=>rfl
 | [_]=>by simp[comms]
 | [_,_]=>by simp[comms]
 | [_,_,_]=>by simp[comms]
theorem L8 :∀l:List Int,(DC l).length=l.length/3
 | a::b::c::t=>by
  rw[KT,X12,L8 t]
  simp only[X12]
  omega
 | []=>rfl
 | [_]=>by simp[DC]
 | [_,_]=>by simp[DC]
theorem V7 (a b:UInt8):0<=GK [a,b]/\GK [a,b]<=65535:=by
 have:=L1 [a,b]
 rw[HZ (by simp)]
 simp only[X12,X13] at this
 omega
theorem RI :∀(l:List UInt8),∀c∈comms l,okC c=true
 | a::b::c::d::t=>by
  rw[L2]
  intro x hx
  rcases List.mem_cons.1 hx with rfl | hx
  ·have h1:=V7 a b
   have h2:=V7 c d
   simp[okC,inR,h1,h2]
  exact RI t x hx
 | []=>by intro n h;simp[comms] at h
 | [_]=>by intro n h;simp[comms] at h
 | [_,_]=>by intro n h;simp[comms] at h
 | [_,_,_]=>by intro n h;simp[comms] at h
theorem OH :∀(l:List Int),(∀n∈l,0<=n/\n<=4294967295)->∀c∈DC l,okL c=true
 | a::b::c::t,h=>by
  rw[KT]
  intro x hx
  rcases List.mem_cons.1 hx with rfl | hx
  ·have h1:=h a (by simp)
   have h2:=h b (by simp)
   have h3:=h c (by simp)
   simp[okL,inR,h1,h2,h3]
  exact OH t (fun n hn=>h n (by simp[hn])) x hx
 | [],_=>by intro n h;simp[DC] at h
 | [_],_=>by intro n h;simp[DC] at h
 | [_,_],_=>by intro n h;simp[DC] at h
theorem dF (a b c d:UInt8):Int.fdiv (GK [a,b,c,d]) (2^(min (Int.toNat 16) 64))=GK [a,b]/\AN ((BitVec.ofInt 64 (GK [a,b,c,d]) &&& BitVec.ofInt 64 65535).toNat:Int)=GK [c,d]:=by
 have h1:=a.toNat_lt
 have h2:=b.toNat_lt
 have h3:=c.toNat_lt
 have h4:=d.toNat_lt
 rw[HZ (by simp),HZ (by simp),HZ (by simp)]
 have v4:val [a,b,c,d]=((a.toNat*256+b.toNat)*256+c.toNat)*256+d.toNat:=by simp[val]
 have v2:val [a,b]=a.toNat*256+b.toNat:=by simp[val]
 have v2':val [c,d]=c.toNat*256+d.toNat:=by simp[val]
 rw[v4,v2,v2']
 constructor
 ·have e:((2:Int)^(min (Int.toNat 16) 64))=65536:=rfl
  rw[e,Int.fdiv_eq_ediv_of_nonneg _ (by omega)]
  omega
 have e:BitVec.ofInt 64 65535=BitVec.ofNat 64 (2^16-1):=rfl
 rw[BitVec.ofInt_natCast,e,BitVec.toNat_and,BitVec.toNat_ofNat,BitVec.toNat_ofNat,Nat.mod_eq_of_lt (show ((a.toNat*256+b.toNat)*256+c.toNat)*256+d.toNat<2^64 by omega),Nat.mod_eq_of_lt (show 2^16-1<2^64 by decide),Nat.and_two_pow_sub_one_eq_mod]
 rw[AO (by omega)]
 omega
theorem Le :∀(l:List UInt8),(nums l).map (fun n=>(⟨Int.fdiv n (2^(min (Int.toNat 16) 64)),AN ((BitVec.ofInt 64 n &&& BitVec.ofInt 64 65535).toNat:Int)⟩:JAB))=comms l
 | a::b::c::d::t=>by
  rw[Kz,L2,List.map_cons,Le t]
  obtain⟨h1,h2⟩:=dF a b c d
  rw[h1,h2]
 | []=>rfl
 | [_]=>rfl
 | [_,_]=>rfl
 | [_,_,_]=>rfl
theorem cn {n:List Int}{ρ:Type}{K:List JAF->Option ρ}(h1:n.length%3=0)(h2:n.length<=1000000) :
  AI (τ:=List JAF) (fun k130=>A2 (σ:=(List JAF)×(List Int)) (fun next131 p=>match p with
   | (v132,v133)=>if (decide ((v133.length:Int) > 0))=true then
     Option.bind (geti v133 0) fun v134=>
     Option.bind (geti v133 1) fun v135=>
     Option.bind (geti v133 2) fun v136=>
     Option.bind (apnd (α:=JAF) 24 v132 ([(⟨v134,v135,v136⟩:JAF)]:List JAF)) fun v137=>
     Option.bind (part v133 3 (v133.length:Int)) fun v138=>
     next131 (v137,v138)
    else k130 v132) fuel ([],n)) K=K (DC n):=by
 rw[AH]
 refine (DU (fun s:List JAF×List Int=>s.2.length%3=0/\s.1.length+s.2.length<=1000000) (fun s=>s.2.length) (fun s=>K (s.1++DC s.2)) ?_ fuel ([],n) ⟨h1,by simpa using h2⟩ (BY (by simp only;omega))).trans rfl
 rintro next ⟨o,v⟩ ⟨g1,g2⟩ hn
 dsimp only at g1 g2 ⊢
 match v,g1,g2,hn with
 | [],_,_,_=>simp[DC]
 | [_],g1,_,_=>simp at g1
 | [_,_],g1,_,_=>simp at g1
 | a::b::c::t,g1,g2,hn=>
  simp only[X12] at g1 g2
  have e1:geti (a::b::c::t) 0=some a:=C0 (l:=a::b::c::t) (i:=0) (by simp)
  have e2:geti (a::b::c::t) 1=some b:=C0 (l:=a::b::c::t) (i:=1) (by simp)
  have e3:geti (a::b::c::t) 2=some c:=C0 (l:=a::b::c::t) (i:=2) (by simp)
  have e4:part (a::b::c::t) 3 ((a::b::c::t).length:Int)=some t:=Hn (l:=a::b::c::t) (n:=3) (by simp)
  rw[if_pos (by simp;omega),e1,AC,e2,AC,e3,AC,AP (by decide) (by simp;omega),AC,e4,AC,hn _ ⟨by simp only;omega,by simp;omega⟩ (by simp only[X12];omega),KT]
  simp
end Go.AX.Q19
end
section
end
section
namespace Go.AX.Q19
open Go Go.AX
def toP (a:JAE):Int×Bool×UInt64×UInt64×Int×Int×Int×(List JAC)×(List JAB)×(List JAF):=(a.Origin,a.Next.V6,a.Next.Hi,a.Next.Lo,a.MED,a.Pref,a.OTC,a.Path,a.Communities,a.JAF)
def MD (p:List JAC):Bool:=(E0 p).getD false
def Na (d:List UInt8):Option Int:=if d.length=1/\GK d<=2 then some (GK d) else none
def Uf (d:List UInt8):Option (List JAC):=(rdL d []).bind fun p=>if MD p=true then some p else none
def addrOf (d:List UInt8):Addr:=((A8 d).getD (⟨false,0,0⟩,0)).1
def UG (d:List UInt8):Option Addr:=if d.length=4 then some (addrOf d) else none
def rd4 (d:List UInt8):Option Int:=if d.length=4 then some (GK d) else none
def ZX (d:List UInt8):Option Int:=if d.length=4/\GK d≠0 then some (GK d) else none
def Ue (d:List UInt8):Option (List JAB):=if d.length≠0/\d.length%4=0/\d.length/4<=64 then some (YK (comms d)) else none
def NK (d:List UInt8):Option (List JAF):=if d.length≠0/\d.length%12=0/\d.length/12<=64 then some (YR (DC (nums d))) else none
def Ir (a:JAE)(t:Int)(d:List UInt8):Option JAE:=
 if t=1 then (Na d).map fun v=>{ a with Origin:=v } else
 if t=2 then (Uf d).map fun v=>{ a with Path:=v } else
 if t=3 then (UG d).map fun v=>{ a with Next:=v } else
 if t=4 then (rd4 d).map fun v=>{ a with MED:=v } else
 if t=5 then (rd4 d).map fun v=>{ a with Pref:=v } else
 if t=8 then (Ue d).map fun v=>{ a with Communities:=v } else
 if t=32 then (NK d).map fun v=>{ a with JAF:=v } else
 if t=35 then (ZX d).map fun v=>{ a with OTC:=v } else some a
def stepS (a:JAE)(x:JAA):Option JAE:=if fl x.Type_=0 then some a else if Fo x=true then Ir a x.Type_ x.Data else none
theorem UX (d:List UInt8):CM d=A8 d:=rfl
instance (a0:List UInt8):Tt (A8 a0):=by unfold A8;exact Tt.auto
theorem Yg (d:List UInt8) :∃e,A8 d=some (addrOf d,e):=by
 have h :∃r,A8 d=some r:=Tt.h
 obtain⟨⟨r,e⟩,h⟩:=h
 refine⟨e,?_⟩
 unfold addrOf
 rw[h];rfl
theorem K1 {d:List UInt8}(h:d.length=4):0<=GK d/\GK d<=4294967295:=by
 have:=L1 d
 rw[HZ (by omega)]
 rw[h] at this
 omega
section
variable {ρ:Type} {F:Option ρ} {next:Int×Bool×UInt64×UInt64×Int×Int×Int×(List JAC)×(List JAB)×(List JAF)->Option ρ} {x:JAA} {a:JAE}
theorem bV (h:x.Type_=1)(e:fl x.Type_=64):Eh F next x (toP a)=match stepS a x with | none=>F | some a'=>next (toP a'):=by
 unfold Eh toP stepS Ir Na
 dsimp only
 rw[AH,if_pos (by rw[h];rfl),AH,Bf x (by rw[e];decide),if_neg (by rw[e];decide)]
 simp only[AH,AC,CZ,h,if_true]
 have e1:((x.Data.length:Int)==1)=decide (x.Data.length=1):=by rw[X28];simp;omega
 rw[e1]
 cases hr:Fo x<;>by_cases h1:x.Data.length=1<;>by_cases h2:GK x.Data<=2<;>simp[h1,h2]
theorem bY (h:x.Type_=3)(e:fl x.Type_=64):Eh F next x (toP a)=match stepS a x with | none=>F | some a'=>next (toP a'):=by
 unfold Eh toP stepS Ir UG
 dsimp only
 obtain⟨er,he⟩:=Yg x.Data
 rw[AH,if_neg (by rw[h];decide),if_neg (by rw[h];decide),if_pos (by rw[h];rfl),AH,Bf x (by rw[e];decide),if_neg (by rw[e];decide),h]
 simp only[AH,AC,he]
 have e1:((x.Data.length:Int)==4)=decide (x.Data.length=4):=by rw[X28];simp;omega
 rw[e1]
 cases hr:Fo x<;>by_cases h1:x.Data.length=4<;>simp[h1]
theorem bT (h:x.Type_=4)(e:fl x.Type_=128):Eh F next x (toP a)=match stepS a x with | none=>F | some a'=>next (toP a'):=by
 unfold Eh toP stepS Ir rd4
 dsimp only
 rw[AH,if_neg (by rw[h];decide),if_neg (by rw[h];decide),if_neg (by rw[h];decide),if_pos (by rw[h];rfl),AH,Bf x (by rw[e];decide),if_neg (by rw[e];decide),h]
 simp only[AH,AC,CZ]
 have e1:((x.Data.length:Int)==4)=decide (x.Data.length=4):=by rw[X28];simp;omega
 rw[e1]
 cases hr:Fo x<;>by_cases h1:x.Data.length=4<;>simp[h1]
theorem bc (h:x.Type_=5)(e:fl x.Type_=64):Eh F next x (toP a)=match stepS a x with | none=>F | some a'=>next (toP a'):=by
 unfold Eh toP stepS Ir rd4
 dsimp only
 rw[AH,if_neg (by rw[h];decide),if_neg (by rw[h];decide),if_neg (by rw[h];decide),if_neg (by rw[h];decide),if_pos (by rw[h];rfl),AH,Bf x (by rw[e];decide),if_neg (by rw[e];decide),h]
 simp only[AH,AC,CZ]
 have e1:((x.Data.length:Int)==4)=decide (x.Data.length=4):=by rw[X28];simp;omega
 rw[e1]
 cases hr:Fo x<;>by_cases h1:x.Data.length=4<;>simp[h1]
theorem af (h:x.Type_=35)(e:fl x.Type_=192):Eh F next x (toP a)=match stepS a x with | none=>F | some a'=>next (toP a'):=by
 unfold Eh toP stepS Ir ZX
 dsimp only
 rw[AH,if_neg (by rw[h];decide),if_neg (by rw[h];decide),if_neg (by rw[h];decide),if_neg (by rw[h];decide),if_neg (by rw[h];decide),if_neg (by rw[h];decide),if_neg (by rw[h];decide),if_pos (by rw[h];rfl),AH,Bf x (by rw[e];decide),if_neg (by rw[e];decide),h]
 simp only[AH,AC,CZ,number_eq]
 have e1:((x.Data.length:Int)==4)=decide (x.Data.length=4):=by rw[X28];simp;omega
 rw[e1]
 by_cases h1:x.Data.length=4
 ·have hg:=K1 h1
  have h3:decide (1<=GK x.Data)=decide (GK x.Data≠0):=by rw[X28];simp;omega
  have h4:decide (GK x.Data<=4294967295)=true:=decide_eq_true hg.2
  rw[h3,h4]
  cases hr:Fo x<;>by_cases h2:GK x.Data=0<;>simp[h1,h2]
 cases hr:Fo x<;>simp[h1]
theorem bG (h:x.Type_≠1/\x.Type_≠2/\x.Type_≠3/\x.Type_≠4/\x.Type_≠5/\x.Type_≠8/\x.Type_≠32/\x.Type_≠35)(e:fl x.Type_=0):Eh F next x (toP a)=match stepS a x with | none=>F | some a'=>next (toP a'):=by
 obtain⟨h1,h2,h3,h4,h5,h6,h7,h8⟩:=h
 unfold Eh toP stepS
 dsimp only
 rw[AH,if_neg (by simpa using h1),if_neg (by simpa using h2),if_neg (by simpa using h3),if_neg (by simpa using h4),if_neg (by simpa using h5),if_neg (by simpa using h6),if_neg (by simpa using h7),if_neg (by simpa using h8),if_pos e]
theorem dx {α β ρ:Type}{g:β->α}{b:Nat}{K:List α->Option ρ}(hb:Nat.ble b 65536=true) :∀(l:List β) (i:Nat) (acc:List α),acc.length+l.length<=1000000000->An K (fun next x _ v=>Option.bind (apnd (α:=α) b v ([g x]:List α)) fun v'=>next v') l i acc=K (acc++l.map g)
 | [],i,acc,_=>by rw[List.map_nil,List.append_nil];rfl
 | x::t,i,acc,h=>by
  simp only[X12] at h
  show (Option.bind (apnd (α:=α) b acc ([g x]:List α)) fun v'=>An K _ t (i+1) v')=_
  rw[AP hb (by simp;omega),AC,dx hb t (i+1) _ (by simp;omega)]
  simp
theorem al (hd:x.Data.length<=1000000)(h:x.Type_=8)(e:fl x.Type_=192):Eh F next x (toP a)=match stepS a x with | none=>F | some a'=>next (toP a'):=by
 have er :∀d,Ir a 8 d=(Ue d).map fun v=>{ a with Communities:=v }:=fun _=>rfl
 unfold Eh toP stepS
 dsimp only
 rw[AH,if_neg (by rw[h];decide),if_neg (by rw[h];decide),if_neg (by rw[h];decide),if_neg (by rw[h];decide),if_neg (by rw[h];decide),if_pos (by rw[h];rfl),AH,Bf x (by rw[e];decide),if_neg (by rw[e];decide),h,AC]
 by_cases hr:Fo x=true
 rotate_left
 ·have hr:Fo x=false:=by simpa using hr
  rw[hr]
  rfl
 have hl:=OS x.Data
 have hc:=Su (comms x.Data)
 rw[hr,if_neg (by decide),AH,E3 (by omega),AC,AH,dx (by decide) _ _ _ (by rw[G7];simp;omega),Le,List.nil_append,er]
 unfold Ue
 show AI _ _=_
 rw[AH]
 have e1:((Int.tmod (x.Data.length:Int) 4)==0)=decide (x.Data.length%4=0):=by
  rw[Int.tmod_eq_emod_of_nonneg (by omega),X28];simp;omega
 have e2 :∀K:Bool->Option ρ,(AI (τ:=Bool) (fun k113=>if (decide (((comms x.Data).length:Int) > 0))=true then k113 (cond true (decide (((comms x.Data).length:Int)<=64)) false) else k113 false) K)=K (decide (0<(comms x.Data).length/\(comms x.Data).length<=64)):=by
  intro K
  rw[AH]
  by_cases g1:0 < (comms x.Data).length<;>by_cases g2:(comms x.Data).length<=64<;>simp[g1,g2]<;>first | (intro;omega)|(rw[decide_eq_true (by omega)])|(rw[decide_eq_false (by omega)])|omega
 rw[e2,SD (by omega)]
 simp only[AH,e1]
 by_cases g:x.Data.length≠0/\x.Data.length%4=0/\x.Data.length/4<=64
 ·rw[if_pos g,decide_eq_true (show 0<(comms x.Data).length/\(comms x.Data).length<=64 by omega),if_pos rfl,if_pos (by rw[decide_eq_true g.2.1];rfl),Hu (by omega),Q5 (RI _) (by omega)]
  rfl
 rw[if_neg g]
 by_cases g1:0<(comms x.Data).length/\(comms x.Data).length<=64
 ·rw[decide_eq_true g1,if_pos rfl,if_neg (by rw[decide_eq_false (by omega)];decide)]
  rfl
 rw[decide_eq_false g1,if_neg (by decide)]
 rfl
theorem aA (hd:x.Data.length<=1000000)(h:x.Type_=32)(e:fl x.Type_=192):Eh F next x (toP a)=match stepS a x with | none=>F | some a'=>next (toP a'):=by
 have er :∀d,Ir a 32 d=(NK d).map fun v=>{ a with JAF:=v }:=fun _=>rfl
 unfold Eh toP stepS
 dsimp only
 rw[AH,if_neg (by rw[h];decide),if_neg (by rw[h];decide),if_neg (by rw[h];decide),if_neg (by rw[h];decide),if_neg (by rw[h];decide),if_neg (by rw[h];decide),if_pos (by rw[h];rfl),AH,Bf x (by rw[e];decide),if_neg (by rw[e];decide),h,AC]
 by_cases hr:Fo x=true
 rotate_left
 ·have hr:Fo x=false:=by simpa using hr
  rw[hr]
  rfl
 have e1:((Int.tmod (x.Data.length:Int) 12) != 0)=!decide (x.Data.length%12=0):=by
  rw[Int.tmod_eq_emod_of_nonneg (by omega),X28];simp;omega
 rw[hr,if_neg (by decide),AH,e1]
 by_cases g1:x.Data.length%12=0
 rotate_left
 ·rw[decide_eq_false g1,if_pos rfl,er]
  unfold NK
  rw[if_neg (show ¬ (x.Data.length≠0/\x.Data.length%12=0/\x.Data.length/12<=64) by omega)]
  rfl
 have hl:=L8 (nums x.Data)
 rw[G7] at hl
 have hc:=Tj (DC (nums x.Data))
 rw[decide_eq_true g1,if_neg (by decide),E3 (by omega),AC,cn (by rw[G7];omega) (by rw[G7];omega),er]
 unfold NK
 show AI _ _=_
 rw[AH]
 have e2 :∀K:Bool->Option ρ,(AI (τ:=Bool) (fun k113=>if (decide (((DC (nums x.Data)).length:Int) > 0))=true then k113 (cond true (decide (((DC (nums x.Data)).length:Int)<=64)) false) else k113 false) K)=K (decide (0<(DC (nums x.Data)).length/\(DC (nums x.Data)).length<=64)):=by
  intro K
  rw[AH]
  by_cases g1:0 < (DC (nums x.Data)).length<;>by_cases g2:(DC (nums x.Data)).length<=64<;>simp[g1,g2]<;>first | (intro;omega)|(rw[decide_eq_true (by omega)])|(rw[decide_eq_false (by omega)])|omega
 rw[e2,Rx (by omega)]
 simp only[AH]
 by_cases g:x.Data.length≠0/\x.Data.length%12=0/\x.Data.length/12<=64
 ·rw[if_pos g,decide_eq_true (show 0<(DC (nums x.Data)).length/\(DC (nums x.Data)).length<=64 by omega),if_pos rfl,F9 (by omega),Qn (OH _ (QP _)) (by omega)]
  rfl
 rw[if_neg g,decide_eq_false (show ¬ (0<(DC (nums x.Data)).length/\(DC (nums x.Data)).length<=64) by omega),if_neg (by decide)]
 rfl
end
end Go.AX.Q19
end
section
namespace Go.AX.Q19
open Go Go.AX
def MH (n:Int):Bool:=decide (1<=n)&&decide (n<=4294967295)
def TG (s:JAC):Bool:=decide (s.ASNs.length≠0)&&(s.ASNs.all MH&&chainB (fun a b=>!s.Set || ltI a b) s.ASNs)
def sgl (a b:JAC):Bool:=b.Set || a.Set
def tot (p:List JAC):Nat:=p.foldl (fun n s=>n+s.ASNs.length) 0
theorem Zl (p:List JAC)(n:Nat):p.foldl (fun n s=>n+s.ASNs.length) n=n+tot p:=by
 unfold tot
 induction p generalizing n with
 | nil=>rfl
 | cons s t ih=>rw[List.foldl_cons,List.foldl_cons,ih,ih (0+_)];omega
theorem EX (s:JAC)(p:List JAC):tot (s::p)=s.ASNs.length+tot p:=by
 conv=>lhs;unfold tot
 rw[List.foldl_cons,Zl];omega
theorem Nj (p q:List JAC):tot (p++q)=tot p+tot q:=by
 induction p with
 | nil=>rw[List.nil_append];exact (Nat.zero_add _).symm
 | cons s t ih=>rw[List.cons_append,EX,EX,ih];omega
theorem aj {p:List JAC}{s:JAC}(h:s∈p):s.ASNs.length<=tot p:=by
 induction p with
 | nil=>simp at h
 | cons x t ih=>
  rw[EX]
  rcases List.mem_cons.1 h with rfl | h
  ·omega
  have:=ih h;omega
def GX (p:List JAC):Bool:=p.all TG&&chainB sgl p&&decide (tot p<=64)
theorem Xs :∀(p:List JAC) (n:Nat),n+tot p<=1000000000->p.foldl (fun (v:Int) s=>AN (v+(s.ASNs.length:Int))) (n:Int)=((n+tot p:Nat):Int)
 | [],n,_=>rfl
 | s::t,n,h=>by
  rw[EX] at h
  rw[List.foldl_cons,EX,AO (by omega),show (n:Int)+(s.ASNs.length:Int)=((n+s.ASNs.length:Nat):Int) by omega,Xs t _ (by omega)]
  congr 1
  omega
theorem Yh {s:JAC}(hl:s.ASNs.length<=1000000000){K:Unit->Option Bool}{body:(Unit->Option Bool)->Int->Nat->Unit->Option Bool}
  (hb :∀next x i,body next x i ()=AI (τ:=Bool) (fun k14=>if (!MH x)=true then k14 true else if s.Set=true then if (cond true (decide ((i:Int) > 0)) false)=true then Option.bind (geti s.ASNs (AN ((i:Int)-1))) fun v15=>k14 (cond false true (cond true (decide (v15 ≥ x)) false)) else k14 false else k14 false) fun v16=>if v16=true then some false else next ()) :
  An K body s.ASNs 0 ()=if s.ASNs.all MH&&chainB (fun a b=>!s.Set || ltI a b) s.ASNs then K () else some false:=by
 refine cA (by omega) (fun next x _=>?_) fun next x y i _ _ hg=>?_
 ·rw[hb,AH]
  cases MH x<;>cases s.Set<;>rfl
 rw[hb,AH,hg,AC]
 have e:decide (((i+1:Nat):Int) > 0)=true:=by simp
 have e2:decide (y ≥ x)=!ltI y x:=by unfold ltI;rw[X28];simp
 rw[e,e2]
 cases MH x<;>cases s.Set<;>cases ltI y x<;>rfl
theorem TW {p:List JAC}(hl:p.length<=1000000000)(ht:tot p<=1000000000){body:(Int->Option Bool)->JAC->Nat->Int->Option Bool}{inner:JAC->(Unit->Option Bool)->Int->Nat->Unit->Option Bool}
  (hb :∀next x i v,body next x i v=AI (τ:=Unit) (fun k6=>AI (τ:=Bool) (fun k7=>if ((x.ASNs.length:Int)==0)=true then k7 true else if (decide ((i:Int) > 0))=true then if (cond true (!x.Set) false)=true then Option.bind (geti p (AN ((i:Int)-1))) fun v8=>k7 (cond false true (cond true (!v8.Set) false)) else k7 false else k7 false) fun v9=>if v9=true then some false else AI (τ:=Unit) (fun k10=>An (σ:=Unit) (fun _=>k10 ()) (inner x) x.ASNs 0 ()) fun _=>k6 ()) fun _=>next (AN (v+(x.ASNs.length:Int))))
  (hi :∀s next x i,inner s next x i ()=AI (τ:=Bool) (fun k14=>if (!MH x)=true then k14 true else if s.Set=true then if (cond true (decide ((i:Int) > 0)) false)=true then Option.bind (geti s.ASNs (AN ((i:Int)-1))) fun v15=>k14 (cond false true (cond true (decide (v15 ≥ x)) false)) else k14 false else k14 false) fun v16=>if v16=true then some false else next ()) :
  (AI (τ:=Int) (fun k1=>An (σ:=Int) (fun v=>k1 v) body p 0 0) fun v=>some (decide (v<=64)))=some (GX p):=by
 rw[AH]
 have hin :∀s∈p,∀K:Unit->Option Bool,An K (inner s) s.ASNs 0 ()=if s.ASNs.all MH&&chainB (fun a b=>!s.Set || ltI a b) s.ASNs then K () else some false:=fun s hs K=>Yh (by have:=aj hs;omega) (hi s)
 refine (da (g:=fun (v:Int) s=>AN (v+(s.ASNs.length:Int))) (ok:=TG) (lt:=sgl) (F:=some false) (by omega) (fun next x v hx=>?_) fun next x y i v hx _ hg=>?_).trans ?_
 ·rw[hb,AH,AH]
  unfold TG
  by_cases h0:x.ASNs.length=0
  ·have e:((x.ASNs.length:Int)==0)=true:=by simp[h0]
   rw[if_pos e]
   simp[h0]
  have e:¬ ((x.ASNs.length:Int)==0)=true:=by simpa using h0
  rw[if_neg e,if_neg (by simp)]
  show (if false=true then _ else _)=_
  rw[if_neg (by decide),AH,hin x hx]
  simp only[h0,ne_eq,not_false_eq_true,decide_true,Bool.true_and]
 ·rw[hb,AH,AH,hg]
  unfold TG sgl
  by_cases h0:x.ASNs.length=0
  ·have e:((x.ASNs.length:Int)==0)=true:=by simp[h0]
   rw[if_pos e]
   simp[h0]
  have e:¬ ((x.ASNs.length:Int)==0)=true:=by simpa using h0
  have e2:decide (((i+1:Nat):Int) > 0)=true:=by simp
  rw[if_neg e,if_pos e2,AC,AH,hin x hx]
  simp only[h0,ne_eq,not_false_eq_true,decide_true,Bool.true_and]
  generalize (x.ASNs.all MH&&chainB (fun a b=>!x.Set || ltI a b) x.ASNs)=c
  cases x.Set<;>cases y.Set<;>cases c<;>rfl
 have hs:=Xs p 0 (by omega)
 rw[Nat.zero_add] at hs
 have hs:p.foldl (fun (v:Int) s=>AN (v+(s.ASNs.length:Int))) 0=(tot p:Int):=hs
 rw[hs]
 unfold GX
 have e:decide ((tot p:Int)<=64)=decide (tot p<=64):=by rw[X28];simp;omega
 simp only[e]
 generalize (p.all TG&&chainB sgl p)=c
 cases c<;>rfl
theorem ID {p:List JAC}(hl:p.length<=1000000000)(ht:tot p<=1000000000):E0 p=some (GX p):=by
 unfold E0
 refine TW hl ht (fun next x i v=>rfl) fun s next x i=>?_
 have e:(!MH x)=(decide (x < 1) || decide (x > 4294967295)):=by unfold MH;rw[X28];simp<;>omega
 rw[AH,AH,e]
 cases decide (x < 1)<;>cases decide (x > 4294967295)<;>rfl
theorem Jf {p:List JAC}(hl:p.length<=1000000000)(ht:tot p<=1000000000):FQ p=some (GX p):=by
 unfold FQ
 refine TW hl ht (fun next x i v=>rfl) fun s next x i=>?_
 rw[number_eq]
 rfl
theorem TJ {p:List JAC}(hl:p.length<=1000000000)(ht:tot p<=1000000000):MD p=GX p:=by
 unfold MD
 rw[ID hl ht];rfl
theorem PH (p:List JAC)(b:Bool){m:List Int}(hm:m.length<=1000000):(Hv p b m).length<=p.length+1/\tot (Hv p b m)<=tot p+m.length:=by
 unfold Hv
 cases b
 ·simp only[Bool.false_eq_true,if_false]
  rcases List.eq_nil_or_concat p with rfl | ⟨q,s,rfl⟩
  ·exact⟨by simp,by simp[tot]⟩
  rw[List.concat_eq_append]
  simp only[List.getLast?_concat,List.dropLast_concat]
  split
  ·rw[Nj,EX]
   exact⟨by simp,by simp[tot]⟩
  rw[Nj,EX,Nj,EX]
  exact⟨by simp,by simp[tot];omega⟩
 simp only[if_true]
 rw[Nj,EX]
 have:=YC hm
 exact⟨by simp,by simp only[tot,List.foldl_nil];omega⟩
theorem RU :∀(n:Nat) (b:List UInt8) (p q:List JAC),b.length<=1000000->KA n b p=some q->q.length<=p.length+b.length/\tot q<=tot p+b.length
 | n,[],p,q,_,h=>by
  rw[OM] at h
  obtain rfl:=X25 h
  exact⟨Nat.le_refl _,Nat.le_refl _⟩
 | n+1,[x],p,q,_,h=>by simp[KA] at h
 | n+1,k::c::t,p,q,hb,h=>by
  simp only[X12] at hb
  simp only[KA] at h
  split at h
  ·cases h
  rename_i hk
  have h1:=RU n _ _ _ (by simp only[X17];omega) h
  have hn:(nums (t.take (4*c.toNat))).length=c.toNat:=by rw[G7,X18];omega
  have hc:=c.toNat_lt
  have h2:=PH p (k.toNat==1) (m:=nums (t.take (4*c.toNat))) (by omega)
  simp only[X17] at h1
  simp only[X12]
  omega
 | 0,x::b,p,q,_,h=>by
  have:KA 0 (x::b) p=none:=by cases b<;>rfl
  rw[this] at h;simp at h
theorem Zx {b:List UInt8}{q:List JAC}(hb:b.length<=1000000)(h:rdL b []=some q):q.length<=1000000/\tot q<=1000000:=by
 have:=RU _ _ _ _ hb h
 simp only[X13,tot,List.foldl_nil] at this
 unfold tot
 omega
section
variable {ρ:Type} {F:Option ρ} {next:Int×Bool×UInt64×UInt64×Int×Int×Int×(List JAC)×(List JAB)×(List JAF)->Option ρ} {x:JAA} {a:JAE}
theorem an (hd:x.Data.length<=1000000)(h:x.Type_=2)(e:fl x.Type_=64)(hp:a.Path=[]):Eh F next x (toP a)=match stepS a x with | none=>F | some a'=>next (toP a'):=by
 have er :∀d,Ir a 2 d=(Uf d).map fun v=>{ a with Path:=v }:=fun _=>rfl
 unfold Eh toP stepS
 dsimp only
 rw[AH,if_neg (by rw[h];decide),if_pos (by rw[h];rfl),AH,Bf x (by rw[e];decide),if_neg (by rw[e];decide),h,AC,er]
 by_cases hr:Fo x=true
 rotate_left
 ·have hr:Fo x=false:=by simpa using hr
  rw[hr]
  rfl
 have ck:chk (([]:List JAC)=[])=some ():=by unfold chk;rw[if_pos rfl]
 rw[hr,if_neg (by decide),AH,AH,hp,ck,AC]
 refine (DU (fun s:List UInt8×List JAC×Nat×List Int=>Lk s.2.1 s.2.2.1 s.2.2.2/\(s.1.length+s.2.1.length<=1000000/\s.1.length+tot s.2.1<=1000000)/\s.1.length+s.2.2.2.length<=1000000) (fun s=>s.1.length)
  (fun s=>match rdL s.1 s.2.1 with | none=>F | some p=>if MD p=true then next (toP { a with Path:=p }) else F) ?_ fuel (x.Data,[],0,[]) ⟨.inl rfl,by simpa[tot] using hd,by simpa using hd⟩ (BY (by simp only;omega))).trans ?_
 rotate_left
 ·unfold Uf
  dsimp only
  cases rdL x.Data [] with
  | none=>rfl
  | some p=>
   rw[Option.bind_some]
   show (if MD p=true then _ else _)=_
   cases MD p<;>rfl
 rintro next' ⟨b,p,i,l⟩ ⟨h1,⟨h2,h2'⟩,h3⟩ hn
 dsimp only at h1 h2 h2' h3 ⊢
 match b,h2,h2',h3,hn with
 | [],h2,h2',_,_=>
  rw[bg,if_neg (by simp),Jf (by omega) (by simp only[X13] at h2';omega),AC]
  show _=(if MD p=true then next (toP { a with Path:=p }) else F)
  simp only[X13] at h2 h2'
  rw[TJ (by omega) (by omega)]
  cases GX p<;>rfl
 | [x],_,_,_,_=>rfl
 | k::c::t,h2,h2',h3,hn=>
  simp only[X12] at h2 h2' h3
  rw[if_pos (by simp;omega),Y5,ZR (by omega)]
  by_cases hb:Oc k c t=true
  ·rw[if_pos hb,if_pos hb]
   rfl
  rw[if_neg hb,if_neg hb]
  have hb':(k.toNat=1\/k.toNat=2)/\1<=c.toNat/\4*c.toNat<=t.length:=by
   simp only[Oc,decide_eq_true_eq] at hb
   omega
  obtain⟨b1,b2,b3⟩:=hb'
  have hc:=c.toNat_lt
  have epart:part (k::c::t) 2 ((2+4*c.toNat:Nat):Int)=some (t.take (4*c.toNat)):=by
   rw[show (2:Int)=((2:Nat):Int) by rfl,EZ (by omega) (by simp;omega)]
   rw[List.drop_succ_cons,List.drop_succ_cons,List.drop_zero,show 2+4*c.toNat-2=4*c.toNat by omega]
  rw[Uj,AC,Qe,AC,eV,epart,AC,E3 (by simp;omega),AC,YM b3,AC]
  have hnl:(nums (t.take (4*c.toNat))).length=c.toNat:=by rw[G7,X18];omega
  generalize hm:nums (t.take (4*c.toNat))=m at *
  have hdl:(t.drop (4*c.toNat)).length=t.length-4*c.toNat:=X17
  have hsl:=YC (l:=m) (by omega)
  have hsz:=PH p (k.toNat==1) (m:=m) (by omega)
  have hsort :∀K:List Int->Option ρ,AI (τ:=List Int) (fun k50=>if ((k.toNat:Int)==1)=true then Option.bind (LU m) fun v51=>Option.bind (Bi v51) fun v52=>k50 v52 else k50 m) K=K (if k.toNat=1 then srt m else m):=by
   intro K
   rw[AH]
   by_cases b1:k.toNat=1
   ·rw[if_pos (by simp[b1]),if_pos b1];exact Rj (by omega)
   rw[if_neg (by simp;omega),if_neg b1]
  rw[hsort]
  rcases b1 with b1 | b1
  ·have e:(k.toNat==1)=true:=by rw[b1];rfl
   have e1:((k.toNat:Int)==1)=true:=by rw[b1];rfl
   rw[e,QL] at hsz
   have ef :∀K:Bool->Option ρ,AI (τ:=Bool) (fun k54=>if (decide ((AN ((p.length:Int)-1)) ≥ 0))=true then if (cond true (!true) false)=true then Option.bind (geti p (AN ((p.length:Int)-1))) fun v55=>k54 (cond true (!v55.Set) false) else k54 false else k54 false) K=K false:=by
    intro K
    rw[AH]
    split<;>rfl
   rw[if_pos b1,e1,ef,AH,if_neg (by decide),AP (by decide) (by simp;omega),AC,e,QL]
   exact hn (t.drop (4*c.toNat),p++[⟨true,srt m⟩],(List.map JAC.toD p).length+0,srt m) ⟨.inr ⟨p,true,rfl,by simp⟩,⟨by simp only[X11,X22,hdl];omega,by simp only[hdl];omega⟩,by simp only[hdl];omega⟩ (by simp only[hdl,X12];omega)
  have e:(k.toNat==1)=false:=by rw[b1];rfl
  have e1:((k.toNat:Int)==1)=false:=by rw[b1];rfl
  rw[e] at hsz
  have ef :∀K:Bool->Option ρ,AI (τ:=Bool) (fun k54=>if (decide ((AN ((p.length:Int)-1)) ≥ 0))=true then if (cond true (!false) false)=true then Option.bind (geti p (AN ((p.length:Int)-1))) fun v55=>k54 (cond true (!v55.Set) false) else k54 false else k54 false) K=K (match p.getLast? with | some s=>!s.Set | none=>false):=by
   intro K
   have hlast:=bo (p:=p) (by omega) K
   refine Eq.trans ?_ hlast
   rw[AH,AH]
   have:decide (AN ((p.length:Int)-1) ≥ 0)=decide ((p.length:Int) > 0):=by rw[AO (by omega),X28];simp;omega
   rw[this]
   split<;>rfl
  rw[if_neg (by omega),e1,ef,AH,e]
  rcases h1 with rfl | ⟨q,s,rfl,rfl⟩
  ·rw[if_neg (by simp),AP (by decide) (by simp),AC,QH]
   rw[QH] at hsz
   exact hn (t.drop (4*c.toNat),[⟨false,m⟩],(List.map JAC.toD []).length+0,m) ⟨.inr ⟨[],false,rfl,rfl⟩,⟨by simp only[X22,hdl];simp only[X13] at h2;omega,by simp only[hdl];omega⟩,by simp only[hdl];omega⟩ (by simp only[hdl,X12];omega)
  simp only[X11,X22] at h2
  cases s
  ·rw[O5] at hsz
   rw[if_pos (by simp),YA (by omega),M9,AC]
   rw[Int.toNat_natCast]
   have ck:chk (q.length=q.length)=some ():=by unfold chk;rw[if_pos rfl]
   rw[ck,AC,AP (by decide) (by omega),AC,AC,bf,AC,O5]
   exact hn (t.drop (4*c.toNat),q++[⟨false,l++m⟩],q.length,l++m) ⟨.inr ⟨q,false,rfl,rfl⟩,⟨by simp only[X11,X22,hdl];omega,by simp only[hdl];omega⟩,by simp only[hdl,X11];omega⟩ (by simp only[hdl,X12];omega)
  rw[Jk] at hsz
  rw[if_neg (by simp),AP (by decide) (by simp;omega),AC,Jk]
  exact hn (t.drop (4*c.toNat),q++[⟨true,l⟩]++[⟨false,m⟩],(List.map JAC.toD (q++[⟨true,l⟩])).length+0,m) ⟨.inr ⟨q++[⟨true,l⟩],false,rfl,by simp⟩,⟨by simp only[X11,X22,hdl];omega,by simp only[hdl];omega⟩,by simp only[hdl];omega⟩ (by simp only[hdl,X12];omega)
end
end Go.AX.Q19
end
section
namespace Go.AX.Q19
open Go Go.AX
section
variable {ρ:Type} {F:Option ρ} {next:Int×(List JAC)×Bool×UInt64×UInt64×Int×Int×Int×(List JAB)×(List JAF)->Option ρ} {x:JAA} {a:JAE}
end
end Go.AX.Q19
end
section
namespace Go.AX.Q19
open Go Go.AX
def Ei (l:List JAA)(t:Int):Bool:=l.any fun y=>t==y.Type_
def BH (l:List JAA):List JAA:=l.foldl (fun acc x=>if Ei acc x.Type_ then acc else acc++[x]) []
theorem NS (l:List JAA)(x:JAA):BH (l++[x])=if Ei (BH l) x.Type_ then BH l else BH l++[x]:=by
 unfold BH
 rw[List.foldl_append]
 rfl
theorem Z8 {l:List JAA}{t:Int}:Ei l t=true ↔∃y∈l,y.Type_=t:=by
 unfold Ei
 rw[List.any_eq_true]
 simp only[beq_iff_eq]
 exact⟨fun ⟨y,h1,h2⟩=>⟨y,h1,h2.symm⟩,fun ⟨y,h1,h2⟩=>⟨y,h1,h2.symm⟩⟩
theorem Ny (l m:List JAA)(t:Int):Ei (l++m) t=(Ei l t || Ei m t):=by unfold Ei;rw[List.any_append]
def Pm (l:List JAA):Prop:=l.Pairwise fun a b=>a.Type_≠b.Type_
theorem DO (l:List JAA):Pm (BH l)/\(∀x∈BH l,x∈l)/\(∀t,Ei (BH l) t=Ei l t)/\(BH l).length<=l.length:=by
 rw[<- List.reverse_reverse l]
 generalize l.reverse=m
 induction m with
 | nil=>exact⟨.nil,by simp[BH],fun t=>rfl,Nat.le_refl _⟩
 | cons x t ih=>
  obtain⟨h1,h2,h3,h4⟩:=ih
  rw[List.reverse_cons,NS]
  by_cases hx:Ei (BH t.reverse) x.Type_=true
  ·rw[if_pos hx]
   refine⟨h1,fun y hy=>List.mem_append_left _ (h2 y hy),fun u=>?_,by simp only[X11];omega⟩
   rw[h3 u,Ny]
   by_cases hu:u=x.Type_
   ·subst hu
    rw[<- h3,hx];rfl
   have:Ei [x] u=false:=by unfold Ei;simp[hu]
   rw[this,Bool.or_false]
  rw[if_neg hx]
  refine⟨List.pairwise_append.2 ⟨h1,by simp,fun a ha b hb e=>?_⟩,fun y hy=>?_,fun u=>by rw[Ny,Ny,h3],by simp only[X11,X22];omega⟩
  ·rw[X14] at hb
   subst hb
   exact hx (Z8.2 ⟨a,ha,e⟩)
  rcases X23.1 hy with hy | hy
  ·exact List.mem_append_left _ (h2 y hy)
  exact List.mem_append_right _ hy
theorem ax {l:List JAA}(hl:l.length<=1000000):DT l=some (BH l):=by
 have:Ok (DT l) fun r=>r=BH l:=by
  unfold DT
  refine .join (fun r=>r=BH l) (fun k hk=>?_) fun r hr=>.ret hr
  refine .forX (fun i s=>s.2=BH (l.take i)/\∀t,(BB s.1 t).getD false=Ei s.2 t) ⟨rfl,fun t=>rfl⟩ (fun s hs=>hk _ (by rw[hs.1,List.take_length])) ?_
  rintro next x i ⟨m,o⟩ hx ⟨h1,h2⟩ hn
  dsimp only at h1 h2
  have hil:=(X16.1 hx).1
  have hlen:=(DO (l.take i)).2.2.2
  rw[<- h1,X18] at hlen
  have e:l.take (i+1)=l.take i++[x]:=by rw[List.take_add_one,hx];rfl
  have hs:=NS (l.take i) x
  rw[<- e,<- h1] at hs
  refine .bind (P:=fun v=>v=Ei o x.Type_) ⟨_,rfl,h2 _⟩ fun v hv=>?_
  subst hv
  refine .join (fun r=>r=BH (l.take (i+1))/\∀t,Ei r t=(t==x.Type_ || Ei o t)) (fun k hk=>.ite (fun hc=>.bind (Ok.apnd (by decide) (by simp;omega)) fun r hr=>hk r ?_) fun hc=>hk o ?_) fun r hr=>hn _ ⟨hr.1,fun t=>?_⟩
  ·have hc:Ei o x.Type_=false:=by simpa using hc
   rw[hc,if_neg (by decide)] at hs
   rw[hs,hr]
   refine⟨rfl,fun t=>?_⟩
   rw[Ny,Bool.or_comm]
   unfold Ei;simp
  ·have hc:Ei o x.Type_=true:=by simpa using hc
   rw[hc,if_pos rfl] at hs
   rw[hs]
   refine⟨rfl,fun t=>?_⟩
   by_cases ht:t=x.Type_
   ·subst ht;rw[hc];simp
   have:(t==x.Type_)=false:=by simpa using ht
   rw[this];rfl
  dsimp only
  rw[hr.2,mget_mset,<- h2]
  cases (t==x.Type_)<;>rfl
 obtain⟨r,h1,h2⟩:=this
 rw[h1,h2]
def IL:JAE->List JAA->Option JAE
 | a,[]=>some a
 | a,x::t=>(stepS a x).bind fun a'=>IL a' t
structure Fit (l:List JAA)(a:JAE):Prop where
 d:Pm l
 z :∀x∈l,x.Data.length<=1000000
 p :∀x∈l,x.Type_=2->a.Path=[]
 c :∀x∈l,x.Type_=8->a.Communities=[]
 l :∀x∈l,x.Type_=32->a.JAF=[]
theorem Ve {a a':JAE}{x:JAA}(h:stepS a x=some a'):(x.Type_≠2->a'.Path=a.Path)/\(x.Type_≠8->a'.Communities=a.Communities)/\(x.Type_≠32->a'.JAF=a.JAF)/\a'.Other=a.Other:=by
 unfold stepS at h
 split at h
 ·obtain rfl:=X25 h
  exact⟨fun _=>rfl,fun _=>rfl,fun _=>rfl,rfl⟩
 split at h
 ·unfold Ir at h
  rcases FY x.Type_ with ⟨e,_⟩|⟨e,_⟩|⟨e,_⟩|⟨e,_⟩|⟨e,_⟩|⟨e,_⟩|⟨e,_⟩|⟨e,_⟩|⟨e1,e2,e3,e4,e5,e6,e7,e8,_⟩
  iterate 8
   ·rw[e] at h ⊢
    obtain⟨v,_,rfl⟩:=Option.map_eq_some_iff.1 h
    exact⟨fun q=>by first | rfl | exact absurd rfl q,fun q=>by first | rfl | exact absurd rfl q,fun q=>by first | rfl | exact absurd rfl q,rfl⟩
  rw[if_neg e1,if_neg e2,if_neg e3,if_neg e4,if_neg e5,if_neg e6,if_neg e7,if_neg e8] at h
  obtain rfl:=X25 h
  exact⟨fun _=>rfl,fun _=>rfl,fun _=>rfl,rfl⟩
 simp at h
theorem Fit.next {x:JAA}{t:List JAA}{a a':JAE}(f:Fit (x::t) a)(h:stepS a x=some a'):Fit t a':=by
 obtain⟨k1,k2,k3,_⟩:=Ve h
 obtain⟨d1,d2⟩:=List.pairwise_cons.1 f.d
 exact⟨d2,fun y hy=>f.z y (X19 _ hy),fun y hy e=>(k1 (e ▸ d1 y hy)).trans (f.p y (X19 _ hy) e),
  fun y hy e=>(k2 (e ▸ d1 y hy)).trans (f.c y (X19 _ hy) e),fun y hy e=>(k3 (e ▸ d1 y hy)).trans (f.l y (X19 _ hy) e)⟩
theorem aN {ρ:Type}{F:Option ρ}{next:Int×Bool×UInt64×UInt64×Int×Int×Int×(List JAC)×(List JAB)×(List JAF)->Option ρ}{x:JAA}{a:JAE}{t:List JAA}(f:Fit (x::t) a):Eh F next x (toP a)=match stepS a x with | none=>F | some a'=>next (toP a'):=by
 have hd:=f.z x (by simp)
 rcases FY x.Type_ with ⟨h,e⟩|⟨h,e⟩|⟨h,e⟩|⟨h,e⟩|⟨h,e⟩|⟨h,e⟩|⟨h,e⟩|⟨h,e⟩|⟨h1,h2,h3,h4,h5,h6,h7,h8,e⟩
 ·exact bV h e
 ·exact an hd h e (f.p x (by simp) h)
 ·exact bY h e
 ·exact bT h e
 ·exact bc h e
 ·exact al hd h e
 ·exact aA hd h e
 ·exact af h e
 exact bG ⟨h1,h2,h3,h4,h5,h6,h7,h8⟩ e
theorem cK {ρ:Type}{F:Option ρ}{K:Int×Bool×UInt64×UInt64×Int×Int×Int×(List JAC)×(List JAB)×(List JAF)->Option ρ} :∀(l:List JAA) (i:Nat) (a:JAE),Fit l a->An K (fun next x _ s=>Eh F next x s) l i (toP a)=match IL a l with | none=>F | some a'=>K (toP a')
 | [],_,_,_=>rfl
 | x::t,i,a,f=>by
  show Eh F (fun s=>An K (fun next x _ s=>Eh F next x s) t (i+1) s) x (toP a)=_
  rw[aN f]
  unfold IL
  cases h:stepS a x with
  | none=>rfl
  | some a'=>exact cK t (i+1) a' (f.next h)
def LO (x:JAA):Bool:=unk x.Type_&&(decide (1<=x.Type_/\x.Type_<=255)&&(bt x.Flags 64 != 0&&decide (x.Data.length<=255)))
def conv (x:JAA):JAA:=⟨224,x.Type_,x.Data⟩
def HN (l:List JAA):List JAA:=(List.range' 1 255).flatMap fun (k:Nat)=>l.flatMap fun x=>if (x.Type_==(k:Int)&&LO x)=true then [conv x] else []
def HI (x:JAA):List Int:=[x.Type_]
theorem GQ (a b:JAA):(HI a).length=(HI b).length:=rfl
theorem TD {l:List JAA}{y:JAA}:y∈HN l ↔∃x∈l,LO x=true/\y=conv x:=by
 unfold HN
 simp only[List.mem_flatMap,List.mem_range'_1]
 constructor
 ·rintro⟨k,hk,x,hx,h⟩
  split at h
  ·rename_i hc
   simp only[X27] at hc
   exact⟨x,hx,hc.2,by simpa using h⟩
  simp at h
 rintro⟨x,hx,hk,rfl⟩
 have hk':=hk
 simp only[LO,X27,decide_eq_true_eq] at hk'
 refine⟨x.Type_.toNat,by omega,x,hx,?_⟩
 rw[if_pos]
 ·simp
 rw[hk,Bool.and_true,beq_iff_eq];omega
theorem Ob {α:Type}{R:α->α->Prop}{c:Bool}{x:α}:(if c=true then [x] else []).Pairwise R:=by
 cases c
 ·exact .nil
 exact List.pairwise_singleton _ _
theorem MW {l:List JAA}(h:Pm l):(HN l).Pairwise fun a b=>ltK HI a b=true:=by
 unfold HN
 rw[List.pairwise_flatMap]
 have hm :∀(k:Nat) (x y:JAA),y∈(if (x.Type_==(k:Int)&&LO x)=true then [conv x] else [])->y.Type_=k/\x.Type_=k:=by
  intro k x y hy
  split at hy
  ·rename_i hc
   simp only[X27,beq_iff_eq] at hc
   rw[X14] at hy
   subst hy
   exact⟨hc.1,hc.1⟩
  simp at hy
 constructor
 ·intro k _
  rw[List.pairwise_flatMap]
  refine⟨fun x _=>Ob,h.imp fun {a b} hab x hx y hy=>?_⟩
  exact absurd ((hm k a x hx).2.trans (hm k b y hy).2.symm) hab
 refine (List.pairwise_lt_range' (s:=1) (n:=255)).imp fun {a b} hab x hx y hy=>?_
 obtain⟨x1,_,hx1⟩:=List.mem_flatMap.1 hx
 obtain⟨y1,_,hy1⟩:=List.mem_flatMap.1 hy
 have e1:=(hm a x1 x hx1).1
 have e2:=(hm b y1 y hy1).1
 unfold ltK HI
 rw[decide_eq_true_eq,SR,if_pos (by omega)]
 decide
def Sm (l:List JAA):Prop:=l.length<=1000000/\∀x∈l,x.Data.length<=1000000
def Ys (x:JAA):Bool:=unk x.Type_&&bt x.Flags 128==0
def zA:JAE:=⟨0,[],(⟨false,(0:UInt64),(0:UInt64)⟩:Addr),0,0,0,[],[],[]⟩
def eA:JAE:=⟨(-1),[],(⟨false,(0:UInt64),(0:UInt64)⟩:Addr),(-1),(-1),(-1),[],[],[]⟩
def rdS (l:List JAA):JAE×Int:=
 if (BH l).any Ys=true then (zA,12) else match IL eA (BH l) with
 | none=>(zA,13)
 | some a=>if (HN (BH l)).length > 8 then (zA,3) else ({ a with Other:=HN (BH l) },0)
theorem Zu (x:JAA):DV x=some (Ys x):=by
 unfold DV Ys
 rw[AH,Dw,AC]
 show (if unk x.Type_=true then some (cond true (bt x.Flags 128==0) false) else some false)=_
 cases unk x.Type_<;>rfl
theorem U0 (l:List JAA):Am l=some (l.any Ys):=
 aY (f:=DV) (q:=Ys) fun x _=>Zu x
theorem Y1 {l:List JAA}(h:Sm l):Fit (BH l) eA:=
 ⟨(DO l).1,fun x hx=>h.2 x ((DO l).2.1 x hx),fun _ _ _=>rfl,fun _ _ _=>rfl,fun _ _ _=>rfl⟩
def Nr (x:JAA):List JAA:=if LO x=true then [conv x] else []
theorem VM (x:JAA):(Nr x).length<=1:=by unfold Nr;split<;>simp
theorem KG {α β:Type}{g:α->List β}(hg :∀x,(g x).length<=1) :∀l:List α,(l.flatMap g).length<=l.length
 | []=>by simp
 | x::t=>by
  rw[List.flatMap_cons,X11,X12]
  have:=KG hg t
  have:=hg x
  omega
theorem bN {l:List JAA}{y:JAA}:y∈l.flatMap Nr ↔∃x∈l,LO x=true/\y=conv x:=by
 rw[List.mem_flatMap]
 constructor
 ·rintro⟨x,hx,h⟩
  unfold Nr at h
  split at h
  ·exact⟨x,hx,‹_›,by simpa using h⟩
  simp at h
 rintro⟨x,hx,hk,rfl⟩
 refine⟨x,hx,?_⟩
 unfold Nr
 rw[if_pos hk];simp
theorem Zz {l:List JAA}(h:Pm l):(l.flatMap Nr).Pairwise fun a b=>HI a≠HI b:=by
 rw[List.pairwise_flatMap]
 refine⟨fun x _=>Ob,h.imp fun {a b} hab x hx y hy e=>?_⟩
 unfold Nr at hx hy
 split at hx
 ·split at hy
  ·rw[X14] at hx hy
   subst hx hy
   exact hab (by simpa[HI,conv] using e)
  simp at hy
 simp at hx
theorem QJ (a b:JAA):DZ a b=some (FU (HI a) (HI b)):=by
 unfold DZ HI
 rw[LF,AC]
 unfold Zr FU FU
 rfl
theorem TU {l:List JAA}(h:Pm l)(hl:l.length<=1000000):EM DZ (l.flatMap Nr)=some (HN l):=by
 have hlen:=KG VM l
 obtain⟨r,h1,h2,h3⟩:=MS GQ QJ (l:=l.flatMap Nr) (by omega)
 rw[h1]
 congr 1
 refine Tn GQ (N6 GQ h3 ?_) (MW h) fun x=>?_
 ·exact (h2.pairwise_iff fun h e=>h e.symm).2 (Zz h)
 rw[h2.mem_iff,bN,TD]
theorem Yq {l:List JAA}(h:Pm l)(hl:l.length<=1000000):(HN l).length=(l.flatMap Nr).length:=by
 exact (Gh (TU h hl))
theorem fk {l:List JAA}(hl:l.length<=1000000)(hz :∀x∈l,x.Data.length<=1000000){ρ:Type}{K:List JAA->Option ρ} :
  An (σ:=List JAA) K (fun next x _ v=>
   AI (τ:=Bool) (fun k198=>
      Option.bind (BV x.Type_) fun v199=>
      if v199=true then
       Option.bind (A7 x.Type_ 1 255) fun v200=>
       if (cond true v200 false)=true then
        if (cond true ((AN ((BitVec.ofInt 64 x.Flags &&& BitVec.ofInt 64 64).toNat:Int)) != 0) false)=true then
         k198 (cond true (decide ((x.Data.length:Int)<=255)) false)
        else
         k198 false
       else
        k198 false
      else
       k198 false
     ) fun v201=>
     AI (τ:=(List JAA)) (fun k202=>
      if v201=true then
       Option.bind (A5 x.Data) fun v203=>
       Option.bind (apnd (α:=JAA) 40 v ([(⟨224,x.Type_,v203⟩:JAA)]:List JAA)) fun v204=>
       k202 v204
      else
       k202 v
     ) fun v205=>
     next v205) l 0 []=K (l.flatMap Nr):=by
 have hlen:=KG VM l
 refine (RS (g:=Nr) (N:=1000000) (by simp only[X13];omega) fun next x i v hx hv=>?_).trans (by rw[List.nil_append])
 have hc :∀k:Bool->Option ρ,AI (τ:=Bool) (fun k198=>
      Option.bind (BV x.Type_) fun v199=>
      if v199=true then
       Option.bind (A7 x.Type_ 1 255) fun v200=>
       if (cond true v200 false)=true then
        if (cond true ((AN ((BitVec.ofInt 64 x.Flags &&& BitVec.ofInt 64 64).toNat:Int)) != 0) false)=true then
         k198 (cond true (decide ((x.Data.length:Int)<=255)) false)
        else
         k198 false
       else
        k198 false
      else
       k198 false
     ) k=k (LO x):=by
  intro k
  unfold LO
  have d1:(AN ((BitVec.ofInt 64 x.Flags &&& BitVec.ofInt 64 64).toNat:Int))=bt x.Flags 64:=rfl
  have d2:decide ((x.Data.length:Int)<=255)=decide (x.Data.length<=255):=by rw[X28];simp;omega
  have d3:decide (1<=x.Type_/\x.Type_<=255)=(decide (1<=x.Type_)&&decide (x.Type_<=255)):=by rw[X28];simp
  rw[AH,Dw,AC,GH,AC,d1,d2,d3]
  cases unk x.Type_<;>cases decide (1<=x.Type_)<;>cases decide (x.Type_<=255)<;>cases (bt x.Flags 64 != 0)<;>cases decide (x.Data.length<=255)<;>rfl
 rw[hc,AH]
 unfold Nr at hv ⊢
 by_cases hk:LO x=true
 ·rw[if_pos hk] at hv
  have:=hz x hx
  simp only[X22] at hv
  rw[if_pos hk,if_pos hk]
  unfold A5
  rw[AP (by decide) (by simp;omega),AC,AC,List.nil_append,AP (by decide) (by simp;omega),AC]
  rfl
 rw[if_neg hk,if_neg hk,List.append_nil]
theorem Vk {l:List JAA}(h:Sm l):EH l=some (rdS l):=by
 obtain⟨h1,h2⟩:=h
 have hlen:=(DO l).2.2.2
 have hm:=(DO l).2.1
 unfold EH rdS
 rw[ax h1,AC,U0,AC]
 by_cases hb:(BH l).any Ys=true
 ·rw[if_pos hb,if_pos hb];rfl
 rw[if_neg hb,if_neg hb,AH,AH]
 rw[AH]
 refine (cK (BH l) 0 eA (Y1 ⟨h1,h2⟩)).trans ?_
 cases hf:IL eA (BH l) with
 | none=>rfl
 | some a=>
  show (if (!true)=true then _ else AI _ _)=_
  rw[if_neg (by decide),AH]
  refine (fk (l:=BH l) (by omega) fun x hx=>h2 x (hm x hx)).trans ?_
  have hk:=Yq (l:=BH l) (DO l).1 (by omega)
  show (if decide (((List.flatMap Nr (BH l)).length:Int) > 8)=true then _ else _)=_
  by_cases h8:(HN (BH l)).length > 8
  ·rw[if_pos (by simp only[decide_eq_true_eq];omega)]
   show _=some (if (HN (BH l)).length > 8 then _ else _)
   rw[if_pos h8];rfl
  rw[if_neg (by simp only[decide_eq_true_eq];omega),TU (DO l).1 (by omega),AC]
  show _=some (if (HN (BH l)).length > 8 then _ else _)
  rw[if_neg h8]
theorem V0 {d:List UInt8}(h:d.length=1):0<=GK d:=by
 rw[HZ (by omega)];omega
theorem UZ {a a':JAE}{x:JAA}(h:stepS a x=some a'):(x.Type_≠1->a'.Origin=a.Origin)/\(x.Type_=1->0<=a'.Origin):=by
 unfold stepS at h
 split at h
 ·rename_i hf
  obtain rfl:=X25 h
  refine⟨fun _=>rfl,fun q=>?_⟩
  rw[q] at hf
  exact absurd hf (by decide)
 split at h
 ·unfold Ir at h
  rcases FY x.Type_ with ⟨e,_⟩|⟨e,_⟩|⟨e,_⟩|⟨e,_⟩|⟨e,_⟩|⟨e,_⟩|⟨e,_⟩|⟨e,_⟩|⟨e1,e2,e3,e4,e5,e6,e7,e8,_⟩
  ·rw[e] at h ⊢
   obtain⟨v,hv,rfl⟩:=Option.map_eq_some_iff.1 h
   refine⟨fun q=>absurd rfl q,fun _=>?_⟩
   unfold Na at hv
   split at hv
   ·rename_i hc
    obtain rfl:=X25 hv
    exact V0 hc.1
   cases hv
  iterate 7
   ·rw[e] at h ⊢
    obtain⟨v,_,rfl⟩:=Option.map_eq_some_iff.1 h
    exact⟨fun q=>rfl,fun q=>absurd q (by decide)⟩
  rw[if_neg e1,if_neg e2,if_neg e3,if_neg e4,if_neg e5,if_neg e6,if_neg e7,if_neg e8] at h
  obtain rfl:=X25 h
  exact⟨fun _=>rfl,fun q=>absurd q e1⟩
 simp at h
theorem NJ :∀{l:List JAA} {a a':JAE},IL a l=some a'->(Ei l 1=false->a'.Origin=a.Origin)/\(Ei l 1=true->0<=a'.Origin)
 | [],a,a',h=>by
  obtain rfl:=X25 h
  exact⟨fun _=>rfl,fun q=>by cases q⟩
 | x::t,a,a',h=>by
  unfold IL at h
  obtain⟨b,h1,h2⟩:=Option.bind_eq_some_iff.1 h
  have ih:=NJ h2
  have st:=UZ h1
  have hc:Ei (x::t) 1=(decide (x.Type_=1) || Ei t 1):=by
   unfold Ei
   rw[List.any_cons]
   congr 1
   rw[X28,beq_iff_eq,decide_eq_true_iff]
   exact eq_comm
  rw[hc]
  by_cases hx:x.Type_=1
  ·refine⟨fun q=>by simp[hx] at q,fun _=>?_⟩
   cases ht:Ei t 1 with
   | true=>exact ih.2 ht
   | false=>rw[ih.1 ht];exact st.2 hx
  simp only[hx,decide_false,Bool.false_or]
  exact⟨fun q=>by rw[ih.1 q];exact st.1 hx,ih.2⟩
def hd4 (x:UInt8):Bool:=(((Ao ((BitVec.ofInt 8 (x.toNat:Int) &&& BitVec.ofInt 8 16).toNat:Int)).toNat:Int) != 0)
def hdN (x:UInt8):Nat:=if hd4 x=true then 4 else 3
def flagsOf (x:UInt8):Int:=((Ao ((BitVec.ofInt 8 (x.toNat:Int) &&& BitVec.ofInt 8 224).toNat:Int)).toNat:Int)
def sizeOf (b:List UInt8)(h:Nat):Nat:=val ((b.drop 2).take (h-2))
def stp (x:UInt8)(t:List UInt8):Option (JAA×List UInt8):=
 if (x::t).length<hdN x\/(x::t).length-hdN x<sizeOf (x::t) (hdN x) then none else
  some (⟨flagsOf x,((t.headD 0).toNat:Int),((x::t).drop (hdN x)).take (sizeOf (x::t) (hdN x))⟩,(x::t).drop (hdN x+sizeOf (x::t) (hdN x)))
def spl:Nat->List UInt8->List JAA->Option (List JAA)
 | _,[],acc=>some acc
 | n+1,x::t,acc=>match stp x t with
  | none=>none
  | some (u,r)=>spl n r (acc++[u])
 | 0,_::_,_=>none
theorem aR (x:UInt8):hdN x=4\/hdN x=3:=by unfold hdN;split<;>simp
theorem UO {x:UInt8}{t:List UInt8}{u:JAA}{r:List UInt8}(h:stp x t=some (u,r)):r.length+3<=(x::t).length/\u.Data.length+r.length<=(x::t).length:=by
 unfold stp at h
 split at h
 ·cases h
 rename_i hc
 simp only[X24,X26] at h
 obtain⟨rfl,rfl⟩:=h
 have:=aR x
 simp only[X17,X18,X12] at hc ⊢
 omega
theorem T8 (n:Nat)(acc:List JAA):spl n [] acc=some acc:=by cases n<;>rfl
theorem V9 :∀(n m:Nat) (b:List UInt8) (acc:List JAA),b.length<=n->b.length<=m->spl n b acc=spl m b acc
 | n,m,[],acc,_,_=>by rw[T8,T8]
 | n+1,m+1,x::t,acc,h1,h2=>by
  simp only[spl]
  cases h:stp x t with
  | none=>rfl
  | some p=>
   obtain⟨u,r⟩:=p
   have:=(UO h).1
   exact V9 n m r _ (by omega) (by omega)
 | 0,_,_::_,_,h,_=>by simp at h
 | _,0,_::_,_,_,h=>by simp at h
def SA (b:List UInt8)(acc:List JAA):Option (List JAA):=spl b.length b acc
theorem Yw (x:UInt8)(t:List UInt8)(acc:List JAA):SA (x::t) acc=match stp x t with | none=>none | some (u,r)=>SA r (acc++[u]):=by
 unfold SA
 rw[X12]
 simp only[spl]
 cases h:stp x t with
 | none=>rfl
 | some p=>
  obtain⟨u,r⟩:=p
  have:=(UO h).1
  simp only[X12] at this
  exact V9 _ _ r _ (by omega) (by omega)
def Zd (b:List UInt8):List JAA×Int:=match SA b [] with
 | none=>([],12)
 | some l=>(l,0)
theorem ZL {b:List UInt8}{h:Nat}(hh:h=4\/h=3)(hb:h<=b.length):GK ((b.drop 2).take (h-2))=(sizeOf b h:Int)/\sizeOf b h<65536:=by
 unfold sizeOf
 have hl:((b.drop 2).take (h-2)).length=h-2:=by simp only[X18,X17];omega
 refine⟨HZ (by omega),?_⟩
 have:=L1 ((b.drop 2).take (h-2))
 rw[hl] at this
 rcases hh with rfl | rfl
 ·exact this
 have h2:(256:Nat)^(3-2)=256:=rfl
 omega
theorem cQ {b:List UInt8}{h:Nat}(h2:2<=h)(hb:h<=b.length):part b 2 (h:Int)=some ((b.drop 2).take (h-2)):=EZ (l:=b) (a:=2) (b:=h) h2 hb
theorem XK {b:List UInt8}(hb:b.length<=1000000):EY b=some (Zd b):=by
 unfold EY
 rw[AH]
 refine (DU (fun s:List UInt8×List JAA=>s.1.length+s.2.length<=1000000) (fun s=>s.1.length) (fun s=>some (match SA s.1 s.2 with | none=>([],12)|some l=>(l,0))) ?_ fuel (b,[]) (by simpa using hb) (BY (by simp only;omega))).trans rfl
 rintro next ⟨b,acc⟩ hl hn
 dsimp only at hl ⊢
 match b,hl,hn with
 | [],_,_=>rfl
 | x::t,hl,hn=>
  have h0:geti (x::t) 0=some x:=Qe
  have hN:=aR x
  have hjoin :∀K:Int->Option (List JAA×Int),AI (τ:=Int) (fun k6=>if (((Ao ((BitVec.ofInt 8 (x.toNat:Int) &&& BitVec.ofInt 8 16).toNat:Int)).toNat:Int) != 0)=true then k6 4 else k6 3) K=K (hdN x:Int):=by
   intro K
   rw[AH]
   unfold hdN
   show (if hd4 x=true then K 4 else K 3)=_
   cases hd4 x<;>rfl
  rw[if_pos (by simp),h0,AC,hjoin,Yw,AH]
  simp only[X12] at hl
  by_cases c1:(x::t).length<hdN x
  ·have:stp x t=none:=by unfold stp;rw[if_pos (.inl c1)]
   rw[this,if_pos (by simp only[decide_eq_true_eq];omega)]
   rfl
  obtain⟨g1,g2⟩:=ZL hN (by omega:hdN x<=(x::t).length)
  have hp:=cQ (b:=x::t) (h:=hdN x) (by omega) (by omega)
  rw[if_neg (by simp only[decide_eq_true_eq];omega),hp,AC,CZ,AC,g1,AO (x:=((x::t).length:Int)-(hdN x:Int)) (by simp only[X12];omega)]
  by_cases c2:(x::t).length-hdN x<sizeOf (x::t) (hdN x)
  ·have:stp x t=none:=by unfold stp;rw[if_pos (.inr c2)]
   have e:decide (((x::t).length:Int)-(hdN x:Int)<(sizeOf (x::t) (hdN x):Int))=true:=decide_eq_true (by omega)
   rw[this,e]
   rfl
  have hs:stp x t=some (⟨flagsOf x,((t.headD 0).toNat:Int),((x::t).drop (hdN x)).take (sizeOf (x::t) (hdN x))⟩,(x::t).drop (hdN x+sizeOf (x::t) (hdN x))):=by
   unfold stp
   rw[if_neg (fun q=>q.elim c1 c2)]
  have e:decide (((x::t).length:Int)-(hdN x:Int)<(sizeOf (x::t) (hdN x):Int))=false:=decide_eq_false (by omega)
  obtain⟨y,t2,rfl⟩ :∃y t2,t=y::t2:=by
   cases t with
   | nil=>simp at c1;omega
   | cons y t2=>exact⟨y,t2,rfl⟩
  simp only[X12] at hl
  have h1:geti (x::y::t2) 1=some y:=Uj
  rw[hs,e]
  show (if (cond false true false)=true then _ else _)=_
  have hp3:part (x::y::t2) (hdN x:Int) ((hdN x+sizeOf (x::y::t2) (hdN x):Nat):Int)=some (((x::y::t2).drop (hdN x)).take (sizeOf (x::y::t2) (hdN x))):=by
   rw[EZ (by omega) (by omega)]
   congr 2
   omega
  have hp4:part (x::y::t2) ((hdN x+sizeOf (x::y::t2) (hdN x):Nat):Int) ((x::y::t2).length:Int)=some ((x::y::t2).drop (hdN x+sizeOf (x::y::t2) (hdN x))):=Hn (by omega)
  rw[if_neg (by decide),AC,CZ,AC,g1,AC,h1,AC,AO (by omega),show (hdN x:Int)+(sizeOf (x::y::t2) (hdN x):Int)=((hdN x+sizeOf (x::y::t2) (hdN x):Nat):Int) by omega,hp3,AC,
   AP (by decide) (by simp only[X13,X18,X17];omega),AC,AP (by decide) (by simp only[X22];omega),AC,hp4,AC]
  exact hn _ (by simp only[X11,X17,X12,X13];omega) (by simp only[X17,X12];omega)
theorem WH :∀(n:Nat) (b:List UInt8) (acc l:List JAA) (N:Nat),spl n b acc=some l->(∀u∈acc,u.Data.length<=N)->b.length<=N->(l.length<=acc.length+b.length/\∀u∈l,u.Data.length<=N)
 | n,[],acc,l,N,h,ha,_=>by
  rw[T8] at h
  obtain rfl:=X25 h
  exact⟨by simp,ha⟩
 | n+1,x::t,acc,l,N,h,ha,hb=>by
  simp only[spl] at h
  cases hs:stp x t with
  | none=>rw[hs] at h;cases h
  | some p=>
   obtain⟨u,r⟩:=p
   rw[hs] at h
   have h2:=UO hs
   have ih:=WH n r (acc++[u]) l N h (fun w hw=>by
    rcases X23.1 hw with hw | hw
    ·exact ha w hw
    rw[X14] at hw
    subst hw
    omega) (by omega)
   refine⟨?_,ih.2⟩
   have:=ih.1
   simp only[X11,X22] at this
   omega
 | 0,_::_,_,_,_,h,_,_=>by cases h
theorem VL {b:List UInt8}(hb:b.length<=400000){l:List JAA}(h:SA b []=some l):l.length<=400000/\∀u∈l,u.Data.length<=400000:=by
 have:=WH _ _ _ _ 400000 h (by simp) hb
 simp only[X13] at this
 exact⟨by omega,this.2⟩
instance (a0:Addr):Tt (D3 a0):=by unfold D3;exact Tt.auto
instance (a0:Addr):Tt (D6 a0):=by unfold D6;exact Tt.auto
instance (a0:List UInt8):Tt (CM a0):=by unfold CM;exact Tt.auto
instance (a0:Int):Tt (Bc a0):=by unfold Bc;exact Tt.auto
instance (a0:Int):Tt (DN a0):=by unfold DN;exact Tt.auto
instance (a0:JAB):Tt (EO a0):=by unfold EO;exact Tt.auto
instance (a0:JAB) (a1:JAB):Tt (EU a0 a1):=by unfold EU;exact Tt.auto
instance (a0:JAF):Tt (B5 a0):=by unfold B5;exact Tt.auto
instance (a0:JAF) (a1:JAF):Tt (Bz a0 a1):=by unfold Bz;exact Tt.auto
instance (a0:List JAB) (a1:JAB):Tt (Gm a0 a1):=by unfold Gm;exact Tt.auto
instance (a0:List JAF) (a1:JAF):Tt (Di a0 a1):=by unfold Di;exact Tt.auto
instance:Tt (DK):=by unfold DK;exact Tt.auto
instance (a0:List JAB) (a1:List JAB):Tt (EP a0 a1):=by unfold EP;exact Tt.auto
instance (a0:List JAF) (a1:List JAF):Tt (B1 a0 a1):=by unfold B1;exact Tt.auto
instance (a0:List JAA) (a1:List JAA):Tt (CE a0 a1):=by unfold CE;exact Tt.auto
instance (a0:Addr):Tt (CH a0):=by unfold CH;exact Tt.auto
instance (a0:Int):Tt (FD a0):=by unfold FD;exact Tt.auto
instance (a0:Addr) (a1:Int):Tt (D1 a0 a1):=by unfold D1;exact Tt.auto
theorem Wu {a k:Nat}(ha:a<2^64)(hk:k<=64):(BitVec.ofInt 64 (a:Int) &&& ~~~BitVec.ofInt 64 ((2^k-1:Nat):Int)).toNat=a/2^k*2^k:=by
 apply Nat.eq_of_testBit_eq
 intro i
 rw[BitVec.ofInt_natCast,BitVec.ofInt_natCast,BitVec.testBit_toNat]
 simp only[BitVec.getLsbD_and,BitVec.getLsbD_not,BitVec.getLsbD_ofNat,Nat.testBit_mul_two_pow,Nat.testBit_div_two_pow,Nat.testBit_two_pow_sub_one]
 by_cases hi:i<64
 ·by_cases hki:k<=i
  ·simp[hi,hki,Nat.not_lt.2 hki]
  simp[hi,hki,Nat.lt_of_not_le hki]
 have:a.testBit i=false:=Nat.testBit_lt_two_pow (Nat.lt_of_lt_of_le ha (Nat.pow_le_pow_right (by omega) (by omega)))
 by_cases hki:k<=i
 ·simp[hi,hki,this]
 omega
theorem BP (n:Nat):AW (n:Int)=UInt64.ofNat n:=by
 unfold AW
 apply UInt64.toNat_inj.1
 simp only[UInt64.toNat_ofNat']
 omega
def Addr.n (a:Addr):Nat:=a.Hi.toNat*2^64+a.Lo.toNat
def Addr.w (a:Addr):Nat:=if a.V6 then 128 else 32
def Addr.ok (a:Addr):Bool:=cond a.V6 true (cond ((a.Hi.toNat:Int)==0) (decide ((a.Lo.toNat:Int)<4294967296)) false)
def mkA (v6:Bool)(n:Nat):Addr:=⟨v6,UInt64.ofNat (n/2^64),UInt64.ofNat n⟩
def Addr.cut (a:Addr)(n:Nat):Addr:=mkA a.V6 (a.n/2^(a.w-n)*2^(a.w-n))
theorem XO (b:Bool)(m:Nat):(mkA b m).V6=b:=by unfold mkA;rfl
theorem Tz (a:Addr)(n:Nat):(a.cut n).V6=a.V6:=XO _ _
theorem fN (h l k:Nat)(hl:l<2^64)(hk:k<=64):(h*2^64+l)/2^k*2^k=h*2^64+l/2^k*2^k:=by
 have:(2:Nat)^64=2^(64-k)*2^k:=by rw[<- Nat.pow_add];congr 1;omega
 rw[this,<- Nat.mul_assoc,Nat.add_comm,Nat.add_mul_div_right _ _ (Nat.two_pow_pos k),X32,Nat.add_comm]
theorem dM:AW (((0:Nat):Int)-1)=UInt64.ofNat 18446744073709551615:=by
   unfold AW
   congr 1
theorem cY {k:Nat}(hk:k<64):AW (((UInt64.ofNat (2^k)).toNat:Int)-1)=UInt64.ofNat (2^k-1):=by
  have h3:(2:Nat)^k<2^64:=Nat.pow_lt_pow_right (by omega) (by omega)
  have h4:0<(2:Nat)^k:=Nat.two_pow_pos k
  have h5:(UInt64.ofNat (2^k)).toNat=2^k:=by simp only[UInt64.toNat_ofNat'];omega
  rw[h5]
  have h6:((2^k:Nat):Int)-1=((2^k-1:Nat):Int):=by omega
  rw[h6,BP]
theorem dP:AW (((UInt64.ofNat (2^64)).toNat:Int)-1)=UInt64.ofNat (2^64-1):=by
  have h5:(UInt64.ofNat (2^64)).toNat=0:=by simp only[UInt64.toNat_ofNat',Nat.mod_self]
  rw[h5]
  exact dM
theorem dT {k:Nat}(hk:k<=64):AW (1*(2^(min (Int.toNat ((AW (k:Int)).toNat:Int)) 64)))=UInt64.ofNat (2^k):=by
 rw[BP]
 have h1:(UInt64.ofNat k).toNat=k:=by simp;omega
 rw[h1,Int.toNat_natCast,Nat.min_eq_left hk,Int.one_mul]
 have h2:((2:Int)^k)=((2^k:Nat):Int):=by simp
 rw[h2,BP]
theorem VY {k:Nat}(hk:k<=64):AW (((AW (1*(2^(min (Int.toNat ((AW (k:Int)).toNat:Int)) 64)))).toNat:Int)-1)=UInt64.ofNat (2^k-1):=by
 rw[dT hk]
 rcases Nat.lt_or_eq_of_le hk with h | h
 ·exact cY h
 rw[h];exact dP
theorem NM {x:UInt64}{k:Nat}(hk:k<=64):AW ((BitVec.ofInt 64 (x.toNat:Int) &&& ~~~BitVec.ofInt 64 ((UInt64.ofNat (2^k-1)).toNat:Int)).toNat:Int)=UInt64.ofNat (x.toNat/2^k*2^k):=by
 have h:(UInt64.ofNat (2^k-1)).toNat=2^k-1:=by
  have:(2:Nat)^k<=2^64:=Nat.pow_le_pow_right (by omega) hk
  have h4:0<(2:Nat)^k:=Nat.two_pow_pos k
  simp only[UInt64.toNat_ofNat'];omega
 rw[h,Wu x.toNat_lt hk,BP]
theorem Jc (a:Addr){n:Nat}(hn:n<=a.w):D1 a (n:Int)=some (a.cut n):=by
 have hw:CH a=some (a.w:Int):=by unfold CH Addr.w;split<;>rfl
 have hwn:AN ((a.w:Int)-(n:Int))=((a.w-n:Nat):Int):=by
  have:a.w<=128:=by unfold Addr.w;split<;>omega
  rw[AO (by omega)];omega
 have hlo:=a.Lo.toNat_lt
 have hhi:=a.Hi.toNat_lt
 unfold D1
 rw[hw,AC,hwn]
 have hk128:a.w-n<=128:=by unfold Addr.w;split<;>omega
 generalize hk:a.w-n=k at *
 unfold FD
 by_cases h64:k > 64
 ·rw[if_pos (by simp;omega),AC]
  have e:AN ((k:Int)-64)=((k-64:Nat):Int):=by rw[AO (by omega)];omega
  rw[e,VY (by omega)]
  simp only[NM (show k-64<=64 by omega)]
  have h1:(18446744073709551615:UInt64)=UInt64.ofNat (2^64-1):=rfl
  rw[h1,NM (Nat.le_refl 64)]
  have h0:a.Lo.toNat/2^64=0:=Nat.div_eq_of_lt hlo
  unfold Addr.cut mkA Addr.n
  rw[hk]
  have hsplit:(2:Nat)^k=2^64*2^(k-64):=by rw[<- Nat.pow_add];congr 1;omega
  have hd:(a.Hi.toNat*2^64+a.Lo.toNat)/2^k=a.Hi.toNat/2^(k-64):=by
   rw[hsplit,<- Nat.div_div_eq_div_mul,Nat.add_comm,Nat.add_mul_div_right _ _ (Nat.two_pow_pos 64),h0,Nat.zero_add]
  rw[hd]
  have he:a.Hi.toNat/2^(k-64)*2^k=a.Hi.toNat/2^(k-64)*2^(k-64)*2^64:=by
   rw[hsplit,Nat.mul_comm (2^64),Nat.mul_assoc]
  rw[he,Nat.mul_div_cancel _ (Nat.two_pow_pos 64),h0]
  have e0:UInt64.ofNat (a.Hi.toNat/2^(k-64)*2^(k-64)*2^64)=UInt64.ofNat 0:=by
   apply UInt64.toNat_inj.1
   simp only[UInt64.toNat_ofNat',Nat.mul_mod_left,Nat.zero_mod]
  rw[e0,Nat.zero_mul]
 rw[if_neg (by simp;omega),AC,VY (by omega)]
 simp only[NM (show k<=64 by omega)]
 have h1:(0:UInt64)=UInt64.ofNat (2^0-1):=rfl
 rw[h1,NM (Nat.zero_le 64)]
 unfold Addr.cut mkA Addr.n
 rw[hk,fN _ _ _ hlo (by omega)]
 have hlt:a.Lo.toNat/2^k*2^k<2^64:=Nat.lt_of_le_of_lt (Nat.div_mul_le_self _ _) hlo
 have e1:UInt64.ofNat (a.Hi.toNat/2^0*2^0)=UInt64.ofNat ((a.Hi.toNat*2^64+a.Lo.toNat/2^k*2^k)/2^64):=by
  congr 1
  omega
 have e2:UInt64.ofNat (a.Lo.toNat/2^k*2^k)=UInt64.ofNat (a.Hi.toNat*2^64+a.Lo.toNat/2^k*2^k):=by
  apply UInt64.toNat_inj.1
  simp only[UInt64.toNat_ofNat']
  omega
 rw[e1,e2]
theorem D5 (n:Nat):Ao (n:Int)=UInt8.ofNat n:=by
 unfold Ao
 apply UInt8.toNat_inj.1
 simp only[UInt8.toNat_ofNat']
 omega
def Addr.L (a:Addr):Nat:=if a.V6 then 16 else 4
def Nv (a:Addr)(k:Nat):UInt8:=UInt8.ofNat (a.n/2^(8*k))
theorem Ey (a:Addr):D3 a=some a.ok:=by
 unfold D3 Addr.ok
 rw[AH]
 generalize ((a.Hi.toNat:Int)==0)=x
 generalize decide ((a.Lo.toNat:Int)<4294967296)=y
 generalize a.V6=z
 cases z<;>cases x<;>rfl
theorem WY {w:UInt64}{k:Nat}(hk:k<8) :
  Ao ((AW (Int.fdiv (w.toNat:Int) (2^(min (Int.toNat ((AW (8*((AW (k:Int)).toNat:Int))).toNat:Int)) 64)))).toNat:Int)=UInt8.ofNat (w.toNat/2^(8*k)):=by
 have h1:(AW (k:Int)).toNat=k:=by rw[BP];simp;omega
 have h2:(AW (8*((AW (k:Int)).toNat:Int))).toNat=8*k:=by
  rw[h1]
  have:(8*(k:Int))=((8*k:Nat):Int):=by omega
  rw[this,BP];simp;omega
 have h3:Int.fdiv (w.toNat:Int) ((2:Int)^(8*k))=((w.toNat/2^(8*k):Nat):Int):=by
  have:((2:Int)^(8*k))=((2^(8*k):Nat):Int):=by simp
  rw[this,Int.fdiv_eq_ediv_of_nonneg _ (Int.natCast_nonneg _),Int.natCast_ediv]
 rw[h2,Int.toNat_natCast,Nat.min_eq_left (by omega),h3,BP,D5]
 have:(UInt64.ofNat (w.toNat/2^(8*k))).toNat=w.toNat/2^(8*k):=by
  have hd:w.toNat/2^(8*k)<2^64:=Nat.lt_of_le_of_lt (Nat.div_le_self _ _) w.toNat_lt
  rw[UInt64.toNat_ofNat',Nat.mod_eq_of_lt hd]
 rw[this]
theorem Ul {a b:Nat}(h:a%256=b%256):UInt8.ofNat a=UInt8.ofNat b:=by
 apply UInt8.toNat_inj.1
 simp only[UInt8.toNat_ofNat']
 exact h
theorem UC {a:Addr}{k:Nat}(hk:k<16)(hv:a.ok=true)(h4:a.V6=false->k<4) :
  UInt8.ofNat ((if k ≥ 8 then a.Hi else a.Lo).toNat/2^(8*(k%8)))=Nv a k:=by
 unfold Nv Addr.n
 have hlo:=a.Lo.toNat_lt
 by_cases h8:k ≥ 8
 ·rw[if_pos h8]
  have e:8*k=64+8*(k%8):=by omega
  rw[e,Nat.pow_add,<- Nat.div_div_eq_div_mul,Nat.add_comm (a.Hi.toNat*2^64),Nat.add_mul_div_right _ _ (Nat.two_pow_pos 64),Nat.div_eq_of_lt hlo,Nat.zero_add]
 rw[if_neg h8]
 have e:k%8=k:=Nat.mod_eq_of_lt (by omega)
 rw[e]
 apply Ul
 have e2:(2:Nat)^64=2^(8*k)*2^(64-8*k):=by rw[<- Nat.pow_add];congr 1;omega
 have e3:(2:Nat)^(64-8*k)=256*2^(56-8*k):=by
  have:(256:Nat)=2^8:=rfl
  rw[this,<- Nat.pow_add];congr 1;omega
 have e4:a.Hi.toNat*2^64=a.Hi.toNat*2^(56-8*k)*256*2^(8*k):=by
  rw[e2,e3,Nat.mul_assoc,Nat.mul_assoc]
  congr 1
  rw[Nat.mul_comm (2^(56-8*k)),Nat.mul_comm (2^(8*k))]
  rw[Nat.mul_assoc,Nat.mul_comm (2^(56-8*k)),Nat.mul_assoc]
 rw[e4,Nat.add_comm,Nat.add_mul_div_right _ _ (Nat.two_pow_pos _),Nat.add_mul_mod_self_right]
theorem Hz {a:Addr}(hv:a.ok=true):Ok (Ba a) fun l=>l.length=a.L/\∀j,j<a.L->l[j]?=some (Nv a (a.L-1-j)):=by
 unfold Ba
 rw[Ey,AC,hv]
 refine .ite (fun h=>by simp at h) fun _=>?_
 refine .join (fun n:Int=>n=a.L) (fun k hk=>.ite (fun h=>hk _ (by unfold Addr.L;rw[if_pos h];rfl)) fun h=>hk _ (by unfold Addr.L;rw[if_neg h];rfl)) fun n hn=>?_
 have hL:a.L=16\/a.L=4:=by unfold Addr.L;split<;>simp
 subst hn
 refine .join (fun l:List UInt8=>l.length=a.L/\∀j,j<a.L->l[j]?=some (Nv a (a.L-1-j))) (fun k hk=>?_) fun l hl=>.ret hl
 refine .whileI (fun s:Int×List UInt8=>-1<=s.1/\s.1=a.L-1-s.2.length/\∀j,j<s.2.length->s.2[j]?=some (Nv a (a.L-1-j))) (fun s=>(s.1+1).toNat) ?_ ?_ ?_
 ·rw[AO (by omega)];simp;omega
 ·rw[AO (by omega)];exact BY (by omega)
 rintro next ⟨p,l⟩ ⟨h1,h2,h3⟩ hn
 simp only at h1 h2 h3
 refine .ite (fun h=>?_) fun h=>hk _ ⟨by simp at h;omega,fun j hj=>h3 j (by simp at h;omega)⟩
 simp only[decide_eq_true_eq] at h
 obtain⟨k,rfl⟩ :∃k:Nat,p=k:=⟨p.toNat,by omega⟩
 refine .join (fun w:UInt64=>w=if k ≥ 8 then a.Hi else a.Lo) (fun k' hk'=>.ite (fun h=>hk' _ (by rw[if_pos (by simp at h;omega)]) ) fun h=>hk' _ (by rw[if_neg (by simp at h;omega)])) fun w hw=>?_
 refine .bind (Ok.apnd (by decide) (by simp;omega)) fun l' hl'=>?_
 have hb:k<16:=by omega
 have ht:Int.tmod (k:Int) 8=((k%8:Nat):Int):=by rw[Int.tmod_eq_emod_of_nonneg (by omega)];omega
 rw[ht,WY (Nat.mod_lt _ (by omega)),hw,UC hb hv (fun h4=>by unfold Addr.L at h2;simp[h4] at h2;omega)] at hl'
 subst hl'
 rw[AO (by omega)]
 refine hn _ ⟨by simp only;omega,by simp;omega,fun j hj=>?_⟩ (by simp only;omega)
 simp only[X11,X22] at hj
 by_cases hj':j<l.length
 ·simp only
  rw[List.getElem?_append_left hj'];exact h3 j hj'
 have:j=l.length:=by omega
 subst this
 simp only[List.getElem?_append_right (Nat.le_refl _),Nat.sub_self,List.getElem?_cons_zero]
 congr 2
 omega
theorem Tv {u v:Nat}(hu:u<2^64)(hv:v<256):AW ((BitVec.ofInt 64 ((AW ((u:Int)*(2^(min (Int.toNat 8) 64)))).toNat:Int) ||| BitVec.ofInt 64 ((AW (v:Int)).toNat:Int)).toNat:Int)=UInt64.ofNat (u*256+v):=by
 have h1:((u:Int)*(2^(min (Int.toNat 8) 64)))=((u*256:Nat):Int):=by
  have:min (Int.toNat 8) 64=8:=rfl
  rw[this];omega
 rw[h1,BP,BP,BP]
 have h2:(UInt64.ofNat v).toNat=v:=by simp only[UInt64.toNat_ofNat'];omega
 have h3:(UInt64.ofNat (u*256)).toNat=2^8*(u%2^56):=by simp only[UInt64.toNat_ofNat'];omega
 rw[h2,h3,BitVec.ofInt_natCast,BitVec.ofInt_natCast,BitVec.toNat_or,BitVec.toNat_ofNat,BitVec.toNat_ofNat,Nat.mod_eq_of_lt (show 2^8*(u%2^56)<2^64 by omega),Nat.mod_eq_of_lt (show v<2^64 by omega),
  ← Nat.two_pow_add_eq_or_of_lt (show v<2^8 by omega)]
 apply UInt64.toNat_inj.1
 simp only[UInt64.toNat_ofNat']
 omega
theorem Hm {l:List UInt8}(hl:l.length=4\/l.length=16):Ok (CM l) fun r=>r=(mkA (l.length==16) (val l%2^128),0):=by
 unfold CM
 refine .join (fun b=>b=false) (fun k hk=>.ite (fun h=>hk _ ?_) fun _=>hk _ rfl) fun b hb=>?_
 ·rcases hl with h' | h'<;>simp[h'] at h ⊢
 subst hb
 refine .ite (fun h=>by simp at h) fun _=>?_
 refine .join (fun a=>a=mkA (l.length==16) (val l%2^128)) (fun k hk=>?_) fun a ha=>.ret (by rw[ha])
 refine .forX (fun i s=>s=mkA (l.length==16) (val (l.take i)%2^128)) ?_ (fun s hs=>hk _ (by rw[hs,List.take_length])) ?_
 ·have:((l.length:Int)==16)=(l.length==16):=by rw[X28];simp only[beq_iff_eq];omega
  rw[this,List.take_zero]
  have e0:val []%2^128=0:=by simp[val]
  rw[e0]
  unfold mkA
  rfl
 rintro next x i s hx rfl hn
 refine hn _ ?_
 have hlt:=(X16.1 hx).1
 have ht:l.take (i+1)=l.take i++[x]:=by rw[List.take_add_one,hx];rfl
 rw[ht,Nl]
 generalize val (l.take i)=m
 have hx8:=x.toNat_lt
 have hlo:(mkA (l.length==16) (m%2^128)).Lo.toNat=m%2^64:=by unfold mkA;simp only[UInt64.toNat_ofNat'];omega
 have hhi:(mkA (l.length==16) (m%2^128)).Hi.toNat=m/2^64%2^64:=by unfold mkA;simp only[UInt64.toNat_ofNat'];omega
 have h1:=Tv (u:=m%2^64) (v:=x.toNat) (by omega) hx8
 have h2:=Tv (u:=m/2^64%2^64) (v:=m%2^64/2^56) (by omega) (by omega)
 have h3:Int.fdiv ((m%2^64:Nat):Int) (2^(min (Int.toNat 56) 64))=((m%2^64/2^56:Nat):Int):=by
  have:min (Int.toNat 56) 64=56:=rfl
  have e5:((2:Int)^56)=((2^56:Nat):Int):=by simp
  rw[this,e5,Int.fdiv_eq_ediv_of_nonneg _ (Int.natCast_nonneg _),Int.natCast_ediv]
 rw[hlo,hhi,h3,h1,h2,XO]
 unfold mkA
 have e1:UInt64.ofNat (m/2^64%2^64*256+m%2^64/2^56)=UInt64.ofNat ((m*256+x.toNat)%2^128/2^64):=by
  apply UInt64.toNat_inj.1;simp only[UInt64.toNat_ofNat'];omega
 have e2:UInt64.ofNat (m%2^64*256+x.toNat)=UInt64.ofNat ((m*256+x.toNat)%2^128):=by
  apply UInt64.toNat_inj.1;simp only[UInt64.toNat_ofNat'];omega
 rw[e1,e2]
theorem VS :∀(l:List UInt8) (q:Nat),(val l).testBit q=if q<8*l.length then (l.getD (l.length-1-q/8) 0).toNat.testBit (q%8) else false:=by
 intro l
 induction h:l.length generalizing l with
 | zero=>intro q;have:l=[]:=List.eq_nil_of_length_eq_zero h;subst this;simp[val]
 | succ n ih=>
  intro q
  obtain⟨l',x,rfl⟩ :∃l' x,l=l'++[x]:=by
   rcases List.eq_nil_or_concat l with h' | ⟨l',x,h'⟩
   ·subst h';simp at h
   exact⟨l',x,by simpa using h'⟩
  have hl':l'.length=n:=by simpa using h
  rw[Nl,Nat.mul_comm,show (256:Nat)=2^8 from rfl,Nat.testBit_two_pow_mul_add _ (show x.toNat<2^8 from x.toNat_lt)]
  by_cases hq:q<8
  ·rw[if_pos hq,if_pos (by omega)]
   have e1:n+1-1-q/8=l'.length:=by omega
   rw[e1,Nat.mod_eq_of_lt hq]
   simp[List.getD_eq_getElem?_getD]
  rw[if_neg hq,ih l' hl']
  by_cases h2:q-8<8*n
  ·rw[if_pos h2,if_pos (by omega)]
   have e1:n-1-(q-8)/8=n+1-1-q/8:=by omega
   have e2:(q-8)%8=q%8:=by omega
   rw[e1,e2,List.getD_eq_getElem?_getD,List.getD_eq_getElem?_getD,List.getElem?_append_left (by omega)]
  rw[if_neg h2,if_neg (by omega)]
theorem Yl {x:UInt8}{r:Nat}(hr:r<8){s:Nat}(hs:s<8) :
  (Ao ((BitVec.ofInt 8 (x.toNat:Int) &&& ~~~BitVec.ofInt 8 ((Ao (Int.fdiv 128 (2^(min (Int.toNat ((AW (r:Int)).toNat:Int)) 8)))).toNat:Int)).toNat:Int)).toNat.testBit s=(x.toNat.testBit s&&!decide (7-r=s)):=by
 have h1:(AW (r:Int)).toNat=r:=by rw[BP];simp;omega
 have h2:Int.fdiv 128 ((2:Int)^r)=((2^(7-r):Nat):Int):=by
  have e1:((2:Int)^r)=((2^r:Nat):Int):=by simp
  have e2:(128:Int)=((128:Nat):Int):=rfl
  rw[e1,e2,Int.fdiv_eq_ediv_of_nonneg _ (Int.natCast_nonneg _),<- Int.natCast_ediv]
  congr 1
  have e3:(128:Nat)=2^(7-r)*2^r:=by rw[<- Nat.pow_add,show 7-r+r=7 by omega]
  rw[e3,Nat.mul_div_cancel _ (Nat.two_pow_pos r)]
 rw[h1,Int.toNat_natCast,Nat.min_eq_left (by omega),h2,D5,D5,BitVec.ofInt_natCast,BitVec.ofInt_natCast]
 have hp:2^(7-r)<256:=Nat.lt_of_le_of_lt (Nat.pow_le_pow_right (by omega) (show 7-r<=7 by omega)) (by decide)
 have h3:(UInt8.ofNat (2^(7-r))).toNat=2^(7-r):=by simp only[UInt8.toNat_ofNat'];exact Nat.mod_eq_of_lt hp
 rw[h3,UInt8.toNat_ofNat',Nat.testBit_mod_two_pow,BitVec.testBit_toNat]
 simp only[BitVec.getLsbD_and,BitVec.getLsbD_not,BitVec.getLsbD_ofNat,hs,decide_true,Bool.true_and,Nat.testBit_two_pow]
theorem Addr.cut_bit (a:Addr){n q:Nat}(hn:n<=a.w):(a.n/2^(a.w-n)*2^(a.w-n)).testBit q=(a.n.testBit q&&decide (a.w-n<=q)):=by
 rw[Nat.testBit_mul_two_pow,Nat.testBit_div_two_pow]
 by_cases h:a.w-n<=q
 ·simp[h]
 simp[h]
theorem aT {b c:Bool}(h:cond b c false=true):b=true/\c=true:=by cases b<;>simp at h ⊢;exact h
theorem Addr.ok4 {a:Addr}(hv:a.ok=true)(h6:a.V6=false):a.Hi.toNat=0/\a.Lo.toNat<2^32:=by
 unfold Addr.ok at hv
 rw[h6] at hv
 obtain⟨h1,h2⟩:=aT hv
 have h2:=of_decide_eq_true h2
 have h1:=eq_of_beq h1
 omega
theorem Addr.n_lt {a:Addr}(hv:a.ok=true):a.n<2^a.w:=by
 have h1:=a.Lo.toNat_lt
 have h2:=a.Hi.toNat_lt
 cases hv6:a.V6
 ·obtain⟨g1,g2⟩:=Addr.ok4 hv hv6
  have hw:a.w=32:=by unfold Addr.w;rw[hv6];rfl
  have hn:a.n=a.Lo.toNat:=by unfold Addr.n;rw[g1,Nat.zero_mul,Nat.zero_add]
  rw[hw,hn];exact g2
 have hw:a.w=128:=by unfold Addr.w;rw[hv6];rfl
 rw[hw]
 unfold Addr.n
 omega
theorem Rn {a:Addr}{n:Nat}(hv:a.ok=true)(hn:n<=a.w):Ok (EA a (n:Int)) fun r=>r=(⟨a.cut n,n⟩,0):=by
 have hw:a.w=8*a.L:=by unfold Addr.w Addr.L;split<;>rfl
 have hL:a.L=16\/a.L=4:=by unfold Addr.L;split<;>simp
 unfold EA
 rw[Ey,AC,hv]
 refine .ite (fun h=>by simp at h) fun _=>?_
 have hwid:D6 a=some (a.w:Int):=by unfold D6 Addr.w;split<;>rfl
 refine .join (fun b=>b=false) (fun k hk=>.ite (fun h=>by simp at h;omega) fun _=>?_) fun b hb=>?_
 ·rw[hwid,AC]
  refine hk _ ?_
  simp only[cond_false,decide_eq_false_iff_not]
  omega
 subst hb
 refine .ite (fun h=>by simp at h) fun _=>?_
 refine .bind (Hz hv) fun l hl=>?_
 refine .join (fun l:List UInt8=>l.length=a.L/\val l=a.n/2^(a.w-n)*2^(a.w-n)) (fun k hk=>?_) fun l' hl'=>?_
 ·refine .whileI (fun s:Int×List UInt8=>∃P:Nat,s.1=P/\n<=P/\P<=8*a.L/\s.2.length=a.L/\∀q,q<8*a.L->(s.2.getD (a.L-1-q/8) 0).toNat.testBit (q%8)=(a.n.testBit q&&!decide (8*a.L-P<=q/\q<8*a.L-n)))
   (fun s=>(8*a.L-s.1).toNat) ⟨n,rfl,Nat.le_refl _,by omega,hl.1,fun q hq=>?_⟩ (BY (by simp only;omega)) ?_
  ·have h1:a.L-1-q/8<a.L:=by omega
   have h2:=hl.2 _ h1
   have h3:a.L-1-(a.L-1-q/8)=q/8:=by omega
   have h4:¬ (8*a.L-n<=q/\q<8*a.L-n):=by omega
   rw[List.getD_eq_getElem?_getD,h2,h3]
   simp only[Option.getD_some,h4,decide_false,Bool.not_false,Bool.and_true]
   unfold Nv
   rw[UInt8.toNat_ofNat',Nat.testBit_mod_two_pow,Nat.testBit_div_two_pow,Nat.mod_add_div]
   simp[Nat.mod_lt]
  rintro next ⟨p,l⟩ ⟨P,h1,h2,h3,h4,h5⟩ hnx
  simp only at h1 h4 h5
  subst h1
  have e8:AN (8*(l.length:Int))=((8*a.L:Nat):Int):=by rw[AO (by omega)];omega
  refine .ite (fun h=>?_) fun h=>hk _ ?_
  ·rw[e8] at h
   simp only[decide_eq_true_eq] at h
   have ed:AN (Int.tdiv (P:Int) 8)=((P/8:Nat):Int):=by
    rw[Int.tdiv_eq_ediv_of_nonneg (by omega),AO (by omega)];omega
   have et:Int.tmod (P:Int) 8=((P%8:Nat):Int):=by rw[Int.tmod_eq_emod_of_nonneg (by omega)];omega
   have hlt:P/8<l.length:=by omega
   rw[ed,C0 hlt,AC,AC]
   refine .bind (Ok.seti (by omega)) fun l' hl'=>?_
   rw[Int.toNat_natCast,et] at hl'
   rw[AO (by omega)]
   refine hnx _ ⟨P+1,by simp only;omega,by omega,by omega,by simp only;omega,fun q hq=>?_⟩ (by simp only;omega)
   simp only
   rw[hl'.1]
   by_cases hb:a.L-1-q/8=P/8
   ·have hx:=h5 q hq
    rw[hb,List.getD_eq_getElem?_getD,X15 hlt,Option.getD_some] at hx
    rw[hb,List.getD_eq_getElem?_getD,List.getElem?_set_self (by omega),Option.getD_some,Yl (Nat.mod_lt _ (by omega)) (Nat.mod_lt _ (by omega)),hx,Bool.and_assoc]
    congr 1
    rw[X28]
    simp only[X27,Bool.not_eq_true',decide_eq_false_iff_not]
    omega
   have hx:=h5 q hq
   rw[List.getD_eq_getElem?_getD] at hx
   rw[List.getD_eq_getElem?_getD,List.getElem?_set_ne (by omega),hx]
   congr 2
   rw[decide_eq_decide]
   omega
  rw[e8] at h
  simp only[decide_eq_true_eq] at h
  have hP:P=8*a.L:=by omega
  subst hP
  refine⟨h4,?_⟩
  apply Nat.eq_of_testBit_eq
  intro q
  rw[VS,a.cut_bit hn,h4]
  by_cases hq:q<8*a.L
  ·rw[if_pos hq,h5 q hq]
   congr 1
   rw[X28]
   simp only[Bool.not_eq_true',decide_eq_false_iff_not,decide_eq_true_eq]
   omega
  rw[if_neg hq]
  have:a.n.testBit q=false:=Nat.testBit_lt_two_pow (Nat.lt_of_lt_of_le (Addr.n_lt hv) (Nat.pow_le_pow_right (by omega) (by omega)))
  rw[this,Bool.false_and]
 refine .bind (Hm (by omega)) fun r hr=>?_
 subst hr
 refine .ret ?_
 have e1:(l'.length==16)=a.V6:=by
  rw[hl'.1]
  unfold Addr.L
  cases a.V6<;>rfl
 have e2:val l'%2^128=val l':=by
  refine Nat.mod_eq_of_lt ?_
  rw[hl'.2]
  exact Nat.lt_of_le_of_lt (Nat.div_mul_le_self _ _) (Nat.lt_of_lt_of_le (Addr.n_lt hv) (Nat.pow_le_pow_right (by omega) (by rw[hw];omega)))
 rw[e1,e2,hl'.2,Addr.cut]
theorem Ql {a:Addr}{n:Int}(hn:¬ (a.ok=true/\0<=n/\n<=a.w)):Ok (EA a n) fun r=>r.2≠0:=by
 have hwid:D6 a=some (a.w:Int):=by unfold D6 Addr.w;split<;>rfl
 unfold EA
 rw[Ey,AC]
 refine .ite (fun _=>.ret (by decide)) fun hv=>?_
 have hv:a.ok=true:=by simpa using hv
 refine .join (fun b=>b=true) (fun k hk=>.ite (fun _=>hk _ rfl) fun h=>?_) fun b hb=>?_
 ·rw[hwid,AC]
  refine hk _ ?_
  show decide (n > (a.w:Int))=true
  simp at h ⊢
  have:¬ (0<=n/\n<=a.w):=fun q=>hn ⟨hv,q⟩
  omega
 subst hb
 exact .ite (fun _=>.ret (by decide)) fun h=>absurd rfl h
theorem IZ (a:Addr)(n:Int) :∃r e,EA a n=some (r,e)/\((a.ok=true/\0<=n/\n<=a.w)/\e=0/\r=⟨a.cut n.toNat,n⟩\/¬ (a.ok=true/\0<=n/\n<=a.w)/\e≠0):=by
 by_cases h:a.ok=true/\0<=n/\n<=a.w
 ·obtain⟨k,rfl⟩ :∃k:Nat,n=k:=⟨n.toNat,by omega⟩
  obtain⟨r,h1,h2⟩:=Rn h.1 (n:=k) (by omega)
  exact⟨_,_,by rw[h1,h2],.inl ⟨h,rfl,by rw[Int.toNat_natCast]⟩⟩
 obtain⟨r,h1,h2⟩:=Ql h
 exact⟨r.1,r.2,h1,.inr ⟨h,h2⟩⟩
instance (a:Addr) (n:Int):Tt (EA a n):=by
 obtain⟨r,e,h,_⟩:=IZ a n
 exact⟨_,h⟩
instance (p:JAD):Tt (DL p):=by unfold DL;exact Tt.auto
structure SmA (n:Nat)(a:JAE):Prop where
 p:a.Path.length<=n
 s :∀s∈a.Path,s.ASNs.length<=n
 c:a.Communities.length<=n
 l:a.JAF.length<=n
 o:a.Other.length<=n
 d :∀u∈a.Other,u.Data.length<=n
theorem SmA.mono {n m:Nat}{a:JAE}(h:SmA n a)(hnm:n<=m):SmA m a:=
 ⟨Nat.le_trans h.p hnm,fun s hs=>Nat.le_trans (h.s s hs) hnm,Nat.le_trans h.c hnm,Nat.le_trans h.l hnm,Nat.le_trans h.o hnm,fun u hu=>Nat.le_trans (h.d u hu) hnm⟩
theorem SmA.zero (n:Nat)(x:Addr)(a b c d:Int):SmA n ⟨a,[],x,b,c,d,[],[],[]⟩:=⟨Nat.zero_le _,fun _ h=>absurd h (by simp),Nat.zero_le _,Nat.zero_le _,Nat.zero_le _,fun _ h=>absurd h (by simp)⟩
instance (a b:List JAC):Tt (ES a b):=by
 unfold ES
 refine Ok.tt (Q:=fun _=>True) (.ite (fun _=>.ret trivial) fun hl=>.join (fun _=>True) (fun k hk=>?_) fun _ _=>.ret trivial)
 have hl:a.length=b.length:=by simp at hl;omega
 refine .for_ (fun _=>hk _ trivial) fun next x i s hi hx hnx=>.join (fun _=>True) (fun k2 hk2=>?_) fun _ _=>hnx _
 have hib:i<b.length:=by omega
 refine .join (fun c=>c=false->x.ASNs.length=b[i].ASNs.length) (fun k3 hk3=>?_) fun c hc=>.ite (fun _=>.ret trivial) fun hc'=>.join (fun _=>True) (fun k4 hk4=>?_) fun _ _=>hk2 _ trivial
 ·rw[C0 hib,AC]
  refine .ite (fun _=>hk3 _ (by simp)) fun _=>?_
  rw[AC]
  exact hk3 _ fun h=>by simp at h;omega
 have:=hc (by simpa using hc')
 refine .for_ (fun _=>hk4 _ trivial) fun next y j s hj hy hny=>?_
 rw[C0 hib,AC]
 refine .bind (.geti (by omega)) fun _ _=>.ite (fun _=>.ret trivial) fun _=>hny _
instance (a b:JAE):Tt (C9 a b):=by unfold C9;exact Tt.auto
theorem Wv {K V:Type}[BEq K](hl :∀a b:K,(a==b)=true↔a=b){l:List (K×V)}{k k':K}{v:V}:BB (CW l k v) k'=cond (k'==k) (some v) (BB l k'):=by
 induction l with
 | nil=>simp only[CW,BB];cases k'==k<;>rfl
 | cons p l ih=>
  simp only[CW]
  cases h:(k==p.1)
  ·simp only[Bool.false_eq_true,if_false,BB,ih]
   cases h2:(k'==p.1)
   ·simp
   have h3:(k'==k)=false:=by
    cases h4:(k'==k)
    ·rfl
    have e1:=(hl _ _).1 h2;have e2:=(hl _ _).1 h4
    rw[<- e2,e1,(hl _ _).2 rfl] at h
    simp at h
   rw[h3];simp
  simp only[if_true,BB]
  have e:=(hl _ _).1 h
  rw[<- e]
  cases k'==k<;>simp
theorem mget_mset {V:Type}{l:List (Int×V)}{k k':Int}{v:V}:BB (CW l k v) k'=if k'=k then some v else BB l k':=by
 rw[Wv (fun a b=>beq_iff_eq)]
 by_cases h:k'=k
 ·rw[if_pos h,h];simp
 rw[if_neg h,show (k'==k)=false by simpa using h];rfl
def Mb (n:Nat)(ks:List Int)(m:List (Int×List UInt8)):Prop:=(∀k v,BB m k=some v->v.length<=n)/\∀k∈ks,BB m k=none
theorem Mb.set {n:Nat}{ks ks':List Int}{m:List (Int×List UInt8)}{k:Int}{v:List UInt8}(h:Mb n ks m)(hv:v.length<=n)(hk :∀q∈ks',q∈ks/\q≠k):Mb n ks' (CW m k v):=by
 refine⟨fun q u hq=>?_,fun q hq=>?_⟩
 ·rw[mget_mset] at hq
  split at hq
  ·obtain rfl:=X25 hq;exact hv
  exact h.1 _ _ hq
 rw[mget_mset,if_neg (hk q hq).2]
 exact h.2 q (hk q hq).1
theorem Mb.sub {n:Nat}{ks ks':List Int}{m:List (Int×List UInt8)}(h:Mb n ks m)(hk :∀q∈ks',q∈ks):Mb n ks' m:=⟨h.1,fun q hq=>h.2 q (hk q hq)⟩
def CB (p:JAD):Prop:=p.Addr.ok=true/\0<=p.Len/\p.Len<=p.Addr.w/\p.Addr.cut p.Len.toNat=p.Addr
theorem Addr.eqd_iff (a b:Addr):Addr.eqd a b=true↔a=b:=by
 unfold Addr.eqd
 simp only[X27,beq_iff_eq,Bool.and_true,Int.natCast_inj,UInt64.toNat_inj]
 constructor
 ·rintro⟨h1,h2,h3⟩;cases a;cases b;simp_all
 rintro rfl;exact⟨rfl,rfl,rfl⟩
theorem JAD.eqd_iff (a b:JAD):JAD.eqd a b=true↔a=b:=by
 have h:=Addr.eqd_iff a.Addr b.Addr
 unfold Addr.eqd at h
 unfold JAD.eqd
 rw[X27,h]
 simp only[Bool.and_true,beq_iff_eq]
 constructor
 ·rintro⟨h1,h2⟩;cases a;cases b;simp_all
 rintro rfl;exact⟨rfl,rfl⟩
theorem Qm (p:JAD):Ok (DL p) fun b=>b=true↔CB p:=by
 obtain⟨r,e,h1,h2⟩:=IZ p.Addr p.Len
 unfold DL
 rw[h1,AC]
 dsimp only
 unfold CB
 rcases h2 with ⟨h3,rfl,rfl⟩|⟨h3,h4⟩
 ·refine .join (fun b=>b=true↔p.Addr.cut p.Len.toNat=p.Addr) (fun k hk=>.ite (fun _=>hk _ ?_) fun h=>absurd rfl h) fun b hb=>.ret (by rw[hb];exact⟨fun h=>⟨h3.1,h3.2.1,h3.2.2,h⟩,fun h=>h.2.2.2⟩)
  show JAD.eqd p _=true↔_
  rw[JAD.eqd_iff]
  exact⟨fun h=>(congrArg JAD.Addr h).symm,fun h=>by rw[h]⟩
 refine .join (fun b=>b=false) (fun k hk=>.ite (fun h=>absurd (by simpa using h) h4) fun _=>hk _ rfl) fun b hb=>.ret ⟨fun h=>by rw[hb] at h;simp at h,fun h=>absurd ⟨h.1,h.2.1,h.2.2.1⟩ h3⟩
def Dk (d:JAI):Prop:=0<=d.At/\d.L.length<=9223372036854775807
def Sh (p:List JAC)(o:List JAA):Prop:=(p.length<=4/\∀s∈p,s.ASNs.length<=20)/\o.length<=4/\∀u∈o,u.Data.length<=4
theorem Sh.a {p:List JAC}{o:List JAA}(h:Sh p o){a b c d:Int}{x:Addr}{e:List JAB}{f:List JAF}(he:e.length<=8)(hf:f.length<=8):SmA 1000 ⟨a,p,x,b,c,d,e,f,o⟩:=
 ⟨by have:=h.1.1;simp only;omega,fun s hs=>by have:=h.1.2 s hs;omega,by simp only;omega,by simp only;omega,by have:=h.2.1;simp only;omega,fun u hu=>by have:=h.2.2 u hu;omega⟩
def pw (six:Bool):Nat:=if six=true then 16 else 4
def pk (n:UInt8):Nat:=(n.toNat+7)/8
def VF (six:Bool)(n:UInt8)(t:List UInt8):List UInt8:=t.take (pk n)++List.replicate (pw six-pk n) 0
def eM (six:Bool)(n:UInt8)(t:List UInt8):JAD:=⟨(addrOf (VF six n t)).cut n.toNat,n.toNat⟩
def KX (six:Bool)(n:UInt8)(t:List UInt8):Option (JAD×List UInt8):=if 8*pw six<n.toNat\/t.length<pk n then none else some (eM six n t,t.drop (pk n))
def pfx (six:Bool):Nat->List UInt8->List JAD->Option (List JAD)
 | _,[],acc=>some acc
 | f+1,n::t,acc=>match KX six n t with
  | none=>none
  | some (p,r)=>pfx six f r (acc++[p])
 | 0,_::_,_=>none
theorem OX {six:Bool}{n:UInt8}{t:List UInt8}{p:JAD}{r:List UInt8}(h:KX six n t=some (p,r)):r.length<=t.length:=by
 unfold KX at h
 split at h
 ·cases h
 simp only[X24,X26] at h
 obtain⟨_,rfl⟩:=h
 simp
theorem P6 (six:Bool)(n:Nat)(acc:List JAD):pfx six n [] acc=some acc:=by cases n<;>rfl
theorem VK (six:Bool) :∀(n m:Nat) (b:List UInt8) (acc:List JAD),b.length<=n->b.length<=m->pfx six n b acc=pfx six m b acc
 | n,m,[],acc,_,_=>by rw[P6,P6]
 | n+1,m+1,x::t,acc,h1,h2=>by
  simp only[pfx]
  cases h:KX six x t with
  | none=>rfl
  | some p=>
   obtain⟨u,r⟩:=p
   have:=OX h
   simp only[X12] at h1 h2
   exact VK six n m r _ (by omega) (by omega)
 | 0,_,_::_,_,h,_=>by simp at h
 | _,0,_::_,_,_,h=>by simp at h
def IH (six:Bool)(b:List UInt8)(acc:List JAD):Option (List JAD):=pfx six b.length b acc
theorem YS (six:Bool)(x:UInt8)(t:List UInt8)(acc:List JAD):IH six (x::t) acc=match KX six x t with | none=>none | some (u,r)=>IH six r (acc++[u]):=by
 unfold IH
 rw[X12]
 simp only[pfx]
 cases h:KX six x t with
 | none=>rfl
 | some p=>
  obtain⟨u,r⟩:=p
  have:=OX h
  exact VK six _ _ r _ (by omega) (by omega)
def ah (six:Bool)(b:List UInt8):List JAD×Bool:=match IH six b [] with
 | none=>([],false)
 | some l=>(l,true)
theorem X1 (six:Bool) :∀(f:Nat) (b:List UInt8) (acc l:List JAD),pfx six f b acc=some l->l.length<=acc.length+b.length
 | f,[],acc,l,h=>by
  rw[P6] at h
  obtain rfl:=X25 h
  simp
 | f+1,x::t,acc,l,h=>by
  simp only[pfx] at h
  cases hs:KX six x t with
  | none=>rw[hs] at h;cases h
  | some p=>
   obtain⟨u,r⟩:=p
   rw[hs] at h
   have h1:=OX hs
   have ih:=X1 six f r _ l h
   simp only[X11,X12,X13] at ih ⊢
   omega
 | 0,_::_,_,_,h=>by cases h
theorem cI {six:Bool}{n:UInt8}(h:¬ 8*pw six<n.toNat):pk n<=pw six:=by
 unfold pk
 omega
theorem TF {six:Bool}{n:UInt8}{t:List UInt8}(h1:¬ 8*pw six<n.toNat)(h2:¬ t.length<pk n):(VF six n t).length=pw six:=by
 have:=cI h1
 unfold VF
 simp only[X11,X18,X20]
 omega
theorem Yo {l:List UInt8}(h:l.length=4\/l.length=16):A8 l=some (addrOf l,0)/\addrOf l=mkA (l.length==16) (val l%2^128):=by
 obtain⟨r,h1,h2⟩:=Hm h
 rw[UX] at h1
 have e:addrOf l=mkA (l.length==16) (val l%2^128):=by
  unfold addrOf
  rw[h1,h2];rfl
 refine⟨?_,e⟩
 rw[h1,h2,e]
theorem G0 {six:Bool}{l:List UInt8}(h:l.length=pw six):A8 l=some (addrOf l,0)/\(addrOf l).V6=six/\(addrOf l).ok=true/\(addrOf l).w=8*pw six:=by
 have h4:l.length=4\/l.length=16:=by
  rw[h];unfold pw;cases six<;>simp
 obtain⟨g1,g2⟩:=Yo h4
 have hv:(addrOf l).V6=six:=by
  rw[g2,XO,h]
  unfold pw;cases six<;>rfl
 refine⟨g1,hv,?_,?_⟩
 ·unfold Addr.ok
  rw[hv]
  cases six with
  | true=>rfl
  | false=>
   have hl:l.length=4:=h
   have hval:=L1 l
   rw[hl] at hval
   have hval:val l<4294967296:=hval
   have e1:(addrOf l).Hi.toNat=0:=by
    rw[g2];unfold mkA
    simp only[UInt64.toNat_ofNat']
    omega
   have e2:(addrOf l).Lo.toNat<4294967296:=by
    rw[g2];unfold mkA
    simp only[UInt64.toNat_ofNat']
    omega
   have e3:((((addrOf l).Hi.toNat:Nat):Int)==0)=true:=by rw[e1];rfl
   rw[e3,cond_false,cond_true]
   exact decide_eq_true (by omega)
 unfold Addr.w pw
 rw[hv]
 cases six<;>rfl
def Lh (b:List UInt8):Option (List UInt8×List UInt8):=match b with
 | x::y::t=>if t.length<x.toNat*256+y.toNat then none else some (t.take (x.toNat*256+y.toNat),t.drop (x.toNat*256+y.toNat))
 | _=>none
theorem LG {b p r:List UInt8}(h:Lh b=some (p,r)):p.length+r.length+2=b.length:=by
 unfold Lh at h
 split at h
 ·split at h
  ·cases h
  simp only[X24,X26] at h
  obtain⟨rfl,rfl⟩:=h
  simp only[X18,X17,X12]
  omega
 cases h
def D9 (l:List JAA)(k:Int):List JAA:=l.filter fun x=>x.Type_==k
def isP (d:List UInt8):Bool:=d.take 3==[0,2,1]
def F2 (d:List UInt8):Option (Addr×List JAD):=
 if isP d=true/\21<=d.length/\d.getD 3 0=16/\d.getD 20 0=0 then (IH true (d.drop 21) []).map fun l=>(addrOf ((d.drop 4).take 16),l) else none
def Fe (d:List UInt8):Option (List JAD):=if isP d=true then IH true (d.drop 3) [] else none
def zAd:Addr:=⟨false,(0:UInt64),(0:UInt64)⟩
def Ft (l:List JAA):Option (Addr×List JAD):=match D9 l 14 with
 | []=>some (zAd,[])
 | [x]=>F2 x.Data
 | _=>none
def Da (l:List JAA):Option (List JAD):=match D9 l 15 with
 | []=>some []
 | [x]=>Fe x.Data
 | _=>none
structure Pt where
 l:List JAA
 next:Addr
 old:List JAD
 gone:List JAD
 four:List JAD
 six:List JAD
def okN (old gone four six:List JAD):Bool:=!(decide (0<four.length)&&decide (0<six.length))&&(decide (old.length+gone.length<=256)&&decide (four.length+six.length<=256))
def X7 (l:List JAA):Option (Addr×List JAD)->Option (List JAD)->Option (List JAD)->Option (List JAD)->Option Pt
 | some (n,six),some gone,some old,some four=>if okN old gone four six=true/\(rdS l).2≠12 then some ⟨l,n,old,gone,four,six⟩ else none
 | _,_,_,_=>none
def cJ (w rest:List UInt8):Option (List JAA)->Option Pt
 | none=>none
 | some l=>X7 l (Ft l) (Da l) (IH false w []) (IH false rest [])
theorem RB {w rest:List UInt8}{l:List JAA}:cJ w rest (some l)=X7 l (Ft l) (Da l) (IH false w []) (IH false rest []):=rfl
def L9 (b:List UInt8):Option Pt:=match Lh b with
 | none=>none
 | some (w,b1)=>match Lh b1 with
  | none=>none
  | some (a,rest)=>cJ w rest (SA a [])
theorem QE {l:List JAA}{n:Addr}{six gone old four:List JAD}:X7 l (some (n,six)) (some gone) (some old) (some four)=if okN old gone four six=true/\(rdS l).2≠12 then some ⟨l,n,old,gone,four,six⟩ else none:=rfl
theorem Em {l:List JAA}{R:Option (Addr×List JAD)}{U O F:Option (List JAD)}(h:R=none\/U=none\/O=none\/F=none):X7 l R U O F=none:=by
 rcases h with rfl | rfl | rfl | rfl
 ·rfl
 ·cases R<;>rfl
 ·cases R<;>cases U<;>rfl
 cases R<;>cases U<;>cases O<;>rfl
def flg (x:JAA):Bool:=(x.Type_==14 || x.Type_==15)&&(bt x.Flags 192 != 128)
def W2 (P:Pt):Bool:=decide ((rdS P.l).2≠0) || (P.l.any flg || (!(Ei P.l 1) || (!(Ei P.l 2) || (decide (0<P.four.length)&&Addr.eqd (rdS P.l).1.Next zAd))))
def eU:JAG:=⟨[],zA,[]⟩
def XP (b:List UInt8):JAG×Int:=match L9 b with
 | none=>(eU,12)
 | some P=>if P.four++P.six=[] then (⟨P.old++P.gone,eA,[]⟩,0) else
  if W2 P=true then (⟨P.old++P.gone++(P.four++P.six),eA,[]⟩,13) else
   (⟨P.old++P.gone,if 0<P.six.length then { (rdS P.l).1 with Next:=P.next } else (rdS P.l).1,P.four++P.six⟩,0)
def LN (b:List UInt8):List UInt8×List UInt8×Bool:=match Lh b with
 | none=>([],[],false)
 | some (p,r)=>(p,r,true)
theorem bF (x y:UInt8)(t:List UInt8):Gk (x::y::t)=some ((x.toNat*256+y.toNat:Nat):Int):=by
 unfold Gk
 have hx:=x.toNat_lt
 rw[Qe,AC,Uj,AC,Zp (by omega) y.toNat_lt]
theorem Vm {b:List UInt8}(hb:b.length<=1000000):Gn b=some (LN b):=by
 match b,hb with
 | [],_=>rfl
 | [x],_=>rfl
 | x::y::t,hb=>
  have hx:=x.toNat_lt
  have hy:=y.toNat_lt
  simp only[X12] at hb
  unfold Gn LN Lh
  rw[AH,if_neg (by simp only[X12,decide_eq_true_eq];omega),bF,AC,AO (x:=((x::y::t).length:Int)-2) (by simp only[X12];omega)]
  dsimp only
  by_cases c:t.length<x.toNat*256+y.toNat
  ·rw[if_pos c,if_pos (by simp only[cond_false,decide_eq_true_eq,X12];omega)]
  have e:AN (2+((x.toNat*256+y.toNat:Nat):Int))=((2+(x.toNat*256+y.toNat):Nat):Int):=by rw[AO (by omega)];omega
  rw[if_neg c,if_neg (by simp only[cond_false,decide_eq_true_eq,X12];omega),AC,e,show (2:Int)=((2:Nat):Int) by rfl,EZ (by omega) (by simp only[X12];omega),AC,Hn (by simp only[X12];omega),AC]
  have e1:2+(x.toNat*256+y.toNat)-2=x.toNat*256+y.toNat:=by omega
  have e2:2+(x.toNat*256+y.toNat)=(x.toNat*256+y.toNat)+2:=by omega
  rw[e1,e2]
  rfl
theorem Ea (a:Addr):Ek a=some a.ok:=by
 unfold Ek Addr.ok
 rw[AH]
 generalize ((a.Hi.toNat:Int)==0)=x
 generalize decide ((a.Lo.toNat:Int)<4294967296)=y
 generalize a.V6=z
 cases z<;>cases x<;>rfl
theorem Jj (a:Addr):CH a=some (a.w:Int):=by unfold CH Addr.w;split<;>rfl
theorem Ya {a:Addr}{n:Nat}(hv:a.ok=true)(hn:n<=a.w):G2 a (n:Int)=some (⟨a.cut n,n⟩,0):=by
 unfold G2
 rw[Ea,AC,hv,if_neg (by decide),AH,if_neg (by simp only[decide_eq_true_eq];omega),Jj,AC]
 dsimp only
 rw[if_neg (by simp only[cond_false,decide_eq_true_eq];omega),Jc a hn,AC]
theorem dH (x:UInt8):AN (1+AN (Int.tdiv (AN ((x.toNat:Int)+7)) 8))=((1+pk x:Nat):Int)/\AN (Int.tdiv (AN ((x.toNat:Int)+7)) 8)=(pk x:Int):=by
 have hx:=x.toNat_lt
 have e:AN (Int.tdiv (AN ((x.toNat:Int)+7)) 8)=(pk x:Int):=by
  unfold pk
  rw[AO (x:=(x.toNat:Int)+7) (by omega),Int.tdiv_eq_ediv_of_nonneg (by omega),AO (by omega)]
  omega
 refine⟨?_,e⟩
 rw[e]
 have:pk x<=40:=by unfold pk;omega
 rw[AO (by omega)]
 omega
theorem ZJ {w:Nat}{ys:List UInt8}(h:ys.length<=w):cpy (List.replicate w (0:UInt8)) 0 (List.replicate w (0:UInt8)).length ys=ys++List.replicate (w-ys.length) 0:=by
 unfold cpy
 rw[List.take_zero,List.nil_append,X20,List.take_of_length_le h,List.drop_replicate]
 congr 2
 omega
theorem Gx {b:List UInt8}(hb:b.length<=1000000)(six:Bool):B0 b six=some (ah six b):=by
 unfold B0
 have hw:pw six=4\/pw six=16:=by unfold pw;cases six<;>simp
 have hW :∀(K:Int->Option (List JAD×Bool)),AI (τ:=Int) (fun k1=>if six then k1 128 else k1 32) K=K ((8*pw six:Nat):Int):=by
  intro K
  rw[AH]
  cases six<;>rfl
 rw[hW,AH]
 have e8:AN (Int.tdiv ((8*pw six:Nat):Int) 8)=(pw six:Int):=by rw[Int.tdiv_eq_ediv_of_nonneg (by omega),AO (by omega)];omega
 rw[e8]
 refine (DU (fun s:List UInt8×List JAD=>s.1.length+s.2.length<=1000000) (fun s=>s.1.length) (fun s=>match IH six s.1 s.2 with | none=>some ([],false)|some l=>some (l,true)) ?_ fuel (b,[]) (by simpa using hb) (BY (by simp only;omega))).trans ?_
 ·rintro next ⟨v,acc⟩ hl hn
  dsimp only at hl ⊢
  match v,hl,hn with
  | [],_,_=>rfl
  | x::t,hl,hn=>
   have hx:=x.toNat_lt
   obtain⟨p1,p2⟩:=dH x
   simp only[X12] at hl
   rw[if_pos (by simp),Qe,AC,YS,AH,p1]
   unfold KX
   by_cases c1:8*pw six<x.toNat
   ·rw[if_pos (by simp only[decide_eq_true_eq];omega),if_pos (.inl c1)]
    rfl
   rw[if_neg (by simp only[decide_eq_true_eq];omega)]
   dsimp only
   by_cases c2:t.length<pk x
   ·rw[if_pos (by simp only[cond_false,decide_eq_true_eq,X12];omega),if_pos (.inr c2)]
   have hk:=cI c1
   rw[if_neg (by simp only[cond_false,decide_eq_true_eq,X12];omega),if_neg (fun q=>q.elim c1 c2),show (1:Int)=((1:Nat):Int) by rfl,EZ (l:=x::t) (a:=1) (b:=1+pk x) (by omega) (by simp only[X12];omega)]
   have e4:((x::t).drop 1).take (1+pk x-1)=t.take (pk x):=by
    have:1+pk x-1=pk x:=by omega
    rw[this];rfl
   have hfl:=TF (six:=six) (n:=x) (t:=t) c1 c2
   obtain⟨a1,a2,a3,a4⟩:=G0 hfl
   have e5:cpy (List.replicate (Int.toNat (pw six:Int)) (0:UInt8)) 0 (List.replicate (Int.toNat (pw six:Int)) (0:UInt8)).length (t.take (pk x))=VF six x t:=by
    have hlen:(t.take (pk x)).length=pk x:=by simp only[X18];omega
    rw[Int.toNat_natCast,ZJ (by omega),hlen]
    rfl
   have e6:(x::t).drop (1+pk x)=t.drop (pk x):=by rw[Nat.add_comm];rfl
   have e7:chk (0<=(pw six:Int)/\(pw six:Int)<=(pw six:Int)/\(pw six:Int)<=1048576)=some ():=if_pos (by omega)
   rw[e7,AC,AC,e4,e5,a1,AC]
   dsimp only
   rw[Ya a3 (by omega),AC]
   dsimp only
   rw[AP (by decide) (by simp only[X22];omega),AC,Hn (by simp only[X12];omega),AC,e6]
   exact hn _ (by simp only[X11,X17,X12,X13];omega) (by simp only[X17,X12];omega)
 unfold ah
 cases IH six b []<;>rfl
theorem S4 (x:JAA)(t:List JAA)(k:Int):D9 (x::t) k=if (x.Type_==k)=true then x::D9 t k else D9 t k:=by
 unfold D9
 rw[List.filter_cons]
theorem cG (x:UInt8)(n:Nat)(h:n<256):((x.toNat:Int) != (n:Int))=!decide (x=UInt8.ofNat n):=by
 have:(x=UInt8.ofNat n)↔x.toNat=n:=by
  rw[<- UInt8.toNat_inj,UInt8.toNat_ofNat',Nat.mod_eq_of_lt h]
 rw[X28]
 simp only[bne_iff_ne,ne_eq,Int.natCast_inj,Bool.not_eq_true',decide_eq_false_iff_not,this]
theorem VV {l:List UInt8}{i:Nat}(h:i<l.length):geti l (i:Int)=some l[i]:=C0 h
theorem Zt (a b:List UInt8):bytes_Equal a b=some (a==b):=by
 unfold bytes_Equal
 rw[SO,SO]
theorem UP (d:List UInt8):bytes_CutPrefix d [0,2,1]=some (if isP d=true then (d.drop 3,true) else (d,false)):=by
 have hp:bytes_HasPrefix d [0,2,1]=some (isP d):=by
  unfold bytes_HasPrefix
  rw[AH]
  by_cases h3:d.length<3
  ·have:isP d=false:=by
    unfold isP
    match d,h3 with
    | [],_=>rfl
    | [_],_=>simp
    | [_,_],_=>simp
   rw[this,if_neg (by simp only[X12,X13,decide_eq_true_eq];omega)]
  rw[if_pos (by simp only[X12,X13,decide_eq_true_eq];omega)]
  have p:part d 0 (([0,2,1]:List UInt8).length:Int)=some (d.take 3):=Qi (n:=3) (by omega)
  rw[p,AC,Zt,AC]
  rfl
 unfold bytes_CutPrefix
 rw[hp,AC]
 by_cases h:isP d=true
 ·have h3:3<=d.length:=by
   unfold isP at h
   rcases Nat.lt_or_ge d.length 3 with q | q
   ·match d,q with
    | [],_=>simp at h
    | [_],_=>simp at h
    | [_,_],_=>simp at h
   exact q
  have p:part d (([0,2,1]:List UInt8).length:Int) (d.length:Int)=some (d.drop 3):=Hn (n:=3) h3
  rw[if_pos h,if_neg (by rw[h];decide),p,AC]
 rw[if_neg h,if_pos (by simpa using h)]
def spF:List JAA->JAH×Nat×Nat->Option (JAH×Nat×Nat)
 | [],s=>some s
 | x::t,(p,c,e)=>if x.Type_=14 then (match F2 x.Data with
   | none=>none
   | some (a,l)=>spF t ({ p with next:=a,new6:=l },c+1,e)) else
  if x.Type_=15 then (match Fe x.Data with
   | none=>none
   | some l=>spF t ({ p with gone6:=l },c,e+1)) else spF t (p,c,e)
theorem EC {x:JAA}{t:List JAA}{k:Int}(h:x.Type_≠k):D9 (x::t) k=D9 t k:=by rw[S4,if_neg (by simpa using h)]
theorem IQ {x:JAA}{t:List JAA}{k:Int}(h:x.Type_=k):D9 (x::t) k=x::D9 t k:=by rw[S4,if_pos (by simpa using h)]
theorem M5 :∀{l:List JAA} {s:JAH×Nat×Nat},spF l s=none->(∃x∈D9 l 14,F2 x.Data=none)\/(∃x∈D9 l 15,Fe x.Data=none)
 | [],s,h=>by cases h
 | x::t,(p,c,e),h=>by
  unfold spF at h
  split at h
  ·rename_i h14
   have h15:x.Type_≠15:=by omega
   rw[IQ h14,EC h15]
   split at h
   ·rename_i hr
    exact .inl ⟨x,by simp,hr⟩
   rcases M5 h with ⟨y,hy,q⟩|q
   ·exact .inl ⟨y,X19 _ hy,q⟩
   exact .inr q
  rename_i h14
  split at h
  ·rename_i h15
   rw[EC h14,IQ h15]
   split at h
   ·rename_i hr
    exact .inr ⟨x,by simp,hr⟩
   rcases M5 h with q | ⟨y,hy,q⟩
   ·exact .inl q
   exact .inr ⟨y,X19 _ hy,q⟩
  rename_i h15
  rw[EC h14,EC h15]
  exact M5 h
structure SpR (l:List JAA)(p q:JAH)(c c' e e':Nat):Prop where
 c:c'=c+(D9 l 14).length
 e:e'=e+(D9 l 15).length
 a0:D9 l 14=[]->q.next=p.next/\q.new6=p.new6
 a1 :∀x,D9 l 14=[x]->F2 x.Data=some (q.next,q.new6)
 b0:D9 l 15=[]->q.gone6=p.gone6
 b1 :∀x,D9 l 15=[x]->Fe x.Data=some q.gone6
 k:q.attrs=p.attrs/\q.gone4=p.gone4/\q.new4=p.new4
theorem M6 :∀{l:List JAA} {p q:JAH} {c c' e e':Nat},spF l (p,c,e)=some (q,c',e')->SpR l p q c c' e e'
 | [],p,q,c,c',e,e',h=>by
  simp only[spF,X24,X26] at h
  obtain⟨rfl,rfl,rfl⟩:=h
  exact⟨rfl,rfl,fun _=>⟨rfl,rfl⟩,fun x hx=>(by cases hx),fun _=>rfl,fun x hx=>(by cases hx),rfl,rfl,rfl⟩
 | x::t,p,q,c,c',e,e',h=>by
  unfold spF at h
  split at h
  ·rename_i h14
   have h15:x.Type_≠15:=by omega
   split at h
   ·cases h
   rename_i a l hr
   have ih:=M6 h
   refine⟨?_,?_,fun z=>?_,fun y z=>?_,fun z=>?_,fun y z=>?_,ih.k⟩
   ·rw[IQ h14,X12];have:=ih.c;omega
   ·rw[EC h15];exact ih.e
   ·rw[IQ h14] at z;cases z
   ·rw[IQ h14] at z
    obtain⟨rfl,z2⟩:=List.cons.inj z
    obtain⟨i1,i2⟩:=ih.a0 z2
    rw[hr,i1,i2]
   ·rw[EC h15] at z;exact ih.b0 z
   rw[EC h15] at z;exact ih.b1 y z
  rename_i h14
  split at h
  ·rename_i h15
   split at h
   ·cases h
   rename_i l hr
   have ih:=M6 h
   refine⟨?_,?_,fun z=>?_,fun y z=>?_,fun z=>?_,fun y z=>?_,ih.k⟩
   ·rw[EC h14];exact ih.c
   ·rw[IQ h15,X12];have:=ih.e;omega
   ·rw[EC h14] at z;exact ih.a0 z
   ·rw[EC h14] at z;exact ih.a1 y z
   ·rw[IQ h15] at z;cases z
   rw[IQ h15] at z
   obtain⟨rfl,z2⟩:=List.cons.inj z
   have i1:=ih.b0 z2
   rw[hr,i1]
  rename_i h15
  have ih:=M6 h
  refine⟨?_,?_,fun z=>?_,fun y z=>?_,fun z=>?_,fun y z=>?_,ih.k⟩
  ·rw[EC h14];exact ih.c
  ·rw[EC h15];exact ih.e
  ·rw[EC h14] at z;exact ih.a0 z
  ·rw[EC h14] at z;exact ih.a1 y z
  ·rw[EC h15] at z;exact ih.b0 z
  rw[EC h15] at z;exact ih.b1 y z
theorem XX {d:List UInt8}(hd:d.length<=1000000){v8:List UInt8}{v9:Bool}(hv:(if isP d=true then (d.drop 3,true) else (d,false))=(v8,v9)){ρ:Type}{B:Option ρ}{G:Addr->List JAD×Bool->Option ρ}{L:Option ρ}
  (hL:L=(AI (τ:=Bool) (fun k11=>
      if (!v9) then
       k11 true
      else
       if (cond false true (decide ((v8.length:Int)<18))) then
        k11 true
       else
        Option.bind (geti v8 0) fun v12=>
        if (cond false true ((v12.toNat:Int) != 16)) then
         k11 true
        else
         Option.bind (geti v8 17) fun v13=>
         k11 (cond false true ((v13.toNat:Int) != 0))
     ) fun v14=>
     if v14 then
      B
     else
      Option.bind (part v8 1 17) fun v15=>
      Option.bind (A8 v15) fun (v16,v17)=>
      Option.bind (part v8 18 (v8.length:Int)) fun v18=>
      Option.bind (B0 v18 true) fun v=>G v16 v)):match F2 d with
   | none=>L=B \/∃a l,L=G a (l,false)
   | some (a,l)=>L=G a (l,true):=by
 rw[AH] at hL
 by_cases hp:isP d=true
 case neg=>
  rw[if_neg hp] at hv
  obtain⟨rfl,rfl⟩:=Prod.mk.inj hv
  rw[show F2 d=none from if_neg (fun q=>hp q.1)]
  exact .inl hL
 rw[if_pos hp] at hv
 obtain⟨rfl,rfl⟩:=Prod.mk.inj hv
 rw[if_neg (by decide)] at hL
 by_cases hl:d.length<21
 ·rw[if_pos (by simp only[cond_false,decide_eq_true_eq,X17];omega)] at hL
  rw[show F2 d=none from if_neg (fun q=>by omega)]
  exact .inl hL
 rw[if_neg (by simp only[cond_false,decide_eq_true_eq,X17];omega)] at hL
 have g0:geti (d.drop 3) 0=some (d.getD 3 0):=by
  have:=VV (l:=d.drop 3) (i:=0) (by simp only[X17];omega)
  have e:(d.drop 3)[0]'(by simp only[X17];omega)=d.getD 3 0:=by
   rw[List.getElem_drop,List.getD_eq_getElem?_getD,X15 (by omega),Option.getD_some]
  rw[<- e];exact this
 have g17:geti (d.drop 3) 17=some (d.getD 20 0):=by
  have:=VV (l:=d.drop 3) (i:=17) (by simp only[X17];omega)
  have e:(d.drop 3)[17]'(by simp only[X17];omega)=d.getD 20 0:=by
   rw[List.getElem_drop,List.getD_eq_getElem?_getD,X15 (by omega),Option.getD_some]
  rw[<- e];exact this
 have c3:(((d.getD 3 0).toNat:Int) != 16)=!decide (d.getD 3 0=16):=cG _ 16 (by omega)
 have c20:(((d.getD 20 0).toNat:Int) != 0)=!decide (d.getD 20 0=0):=cG _ 0 (by omega)
 rw[g0,AC,g17,AC,c3,c20] at hL
 by_cases k3:d.getD 3 0=16
 case neg=>
  rw[if_pos (by simp only[k3,decide_false,Bool.not_false,cond_false])] at hL
  rw[show F2 d=none from if_neg (fun q=>k3 q.2.2.1)]
  exact .inl hL
 rw[if_neg (by simp only[k3,decide_true,Bool.not_true,cond_false];decide)] at hL
 by_cases k20:d.getD 20 0=0
 case neg=>
  rw[decide_eq_false k20] at hL
  rw[show F2 d=none from if_neg (fun q=>k20 q.2.2.2)]
  exact .inl hL
 have p1:part (d.drop 3) 1 17=some ((d.drop 4).take 16):=by
  have:=EZ (l:=d.drop 3) (a:=1) (b:=17) (by omega) (by simp only[X17];omega)
  rw[List.drop_drop] at this
  exact this
 have p2:part (d.drop 3) 18 ((d.drop 3).length:Int)=some (d.drop 21):=by
  have:=Hn (l:=d.drop 3) (n:=18) (by simp only[X17];omega)
  rw[List.drop_drop] at this
  exact this
 have hl16:((d.drop 4).take 16).length=pw true:=by
  show _=16
  simp only[X18,X17]
  omega
 rw[decide_eq_true k20] at hL
 dsimp only at hL
 rw[if_neg (by decide),p1,AC,(G0 hl16).1,AC] at hL
 dsimp only at hL
 rw[p2,AC,Gx (by simp only[X17];omega),AC] at hL
 unfold ah at hL
 rw[show F2 d=_ from if_pos ⟨hp,by omega,k3,k20⟩]
 cases hx:IH true (d.drop 21) [] with
 | none=>rw[hx] at hL;exact .inr ⟨_,_,hL⟩
 | some l=>rw[hx] at hL;exact hL
theorem Up {p:JAH}(hl:p.attrs.length<=1000000)(hd :∀x∈p.attrs,x.Data.length<=1000000) :∃r,Cj p=some r/\(match spF p.attrs (p,0,0) with
  | none=>r.1=false
  | some (q,c,e)=>r=(decide (c<2)&&decide (e<2),q)):=by
 unfold Cj
 rw[AH]
 generalize hR:spF p.attrs (p,0,0)=R
 refine Xf (fun (t:List JAA) _ (s:JAH×List (Int×Int))=>(∃c e:Nat,(BB s.2 14).getD 0=(c:Int)/\(BB s.2 15).getD 0=(e:Int)/\c+e+t.length<=1000000/\spF t (s.1,c,e)=R)/\∀x∈t,x.Data.length<=1000000) _ ?_ ?_ p.attrs 0 (p,[]) ⟨⟨0,0,rfl,rfl,by omega,hR⟩,hd⟩
 ·rintro i ⟨v2,v3⟩ ⟨⟨c,e,h1,h2,h3,h4⟩,_⟩
  have h4:some (v2,c,e)=R:=h4
  subst h4
  refine⟨(decide (c<2)&&decide (e<2),v2),?_,rfl⟩
  dsimp only at h1 h2 ⊢
  rw[AH,AC,h1,AC,h2]
  by_cases hc:c<2
  ·rw[if_pos (by simp only[decide_eq_true_eq];omega),decide_eq_true hc]
   have:decide ((e:Int)<2)=decide (e<2):=by rw[decide_eq_decide];omega
   rw[this]
   rfl
  rw[if_neg (by simp only[decide_eq_true_eq];omega),decide_eq_false hc]
  rfl
 rintro next x t i ⟨v2,v3⟩ ⟨⟨c,e,h1,h2,h3,h4⟩,hdx⟩ hn
 have hdd:=hdx x (by simp)
 have hdt :∀y∈t,y.Data.length<=1000000:=fun y hy=>hdx y (X19 _ hy)
 simp only[X12] at h1 h2 h3 h4
 dsimp only
 obtain⟨v8,v9,hv⟩ :∃v8 v9,(if isP x.Data=true then (x.Data.drop 3,true) else (x.Data,false))=(v8,v9):=⟨_,_,rfl⟩
 rw[AC,UP,hv,AC]
 dsimp only
 rw[AH]
 by_cases h14:x.Type_=14
 ·rw[if_pos (by rw[h14];rfl)]
  have hz:=XX hdd hv (B:=some (false,v2)) (G:=fun a q=>if (!q.2) then some (false,{ v2 with next:=a,new6:=q.1 }) else next ({ v2 with next:=a,new6:=q.1 },CW v3 x.Type_ (AN ((BB v3 x.Type_).getD 0+1)))) rfl
  unfold spF at h4
  rw[if_pos h14] at h4
  cases hr:F2 x.Data with
  | none=>
   rw[hr] at hz h4
   have h4:none=R:=h4
   subst h4
   rcases hz with hz | ⟨a,l,hz⟩
   ·exact⟨_,hz,rfl⟩
   exact⟨_,hz,rfl⟩
  | some q=>
   obtain⟨a,l⟩:=q
   rw[hr] at hz h4
   dsimp only at hz h4
   rw[if_neg (by decide)] at hz
   obtain⟨r,g1,g2⟩:=hn ({ v2 with next:=a,new6:=l },CW v3 x.Type_ (AN ((BB v3 x.Type_).getD 0+1))) ⟨⟨c+1,e,by
    rw[mget_mset,if_pos h14.symm,h14,h1,Option.getD_some,AO (by omega)];omega,by
    rw[mget_mset,if_neg (by omega)];exact h2,by omega,h4⟩,hdt⟩
   exact⟨r,Eq.trans hz g1,g2⟩
 rw[if_neg (by simpa using h14),AH]
 unfold spF at h4
 rw[if_neg h14] at h4
 by_cases h15:x.Type_=15
 ·rw[if_pos (by rw[h15];rfl),AH]
  rw[if_pos h15] at h4
  by_cases hp:isP x.Data=true
  ·rw[if_pos hp] at hv
   obtain⟨rfl,rfl⟩:=Prod.mk.inj hv
   rw[if_pos rfl,Gx (by simp only[X17];omega),AC]
   rw[show Fe x.Data=_ from if_pos hp] at h4
   unfold ah
   cases hx:IH true (x.Data.drop 3) [] with
   | none=>
    rw[hx] at h4
    have h4:none=R:=h4
    subst h4
    exact⟨_,rfl,rfl⟩
   | some l=>
    rw[hx] at h4
    dsimp only at h4 ⊢
    rw[if_neg (by decide)]
    exact hn _ ⟨⟨c,e+1,by
     rw[mget_mset,if_neg (by omega)];exact h1,by
     rw[mget_mset,if_pos h15.symm,h15,h2,Option.getD_some,AO (by omega)];omega,by omega,h4⟩,hdt⟩
  rw[if_neg hp] at hv
  obtain⟨rfl,rfl⟩:=Prod.mk.inj hv
  rw[show Fe x.Data=none from if_neg hp] at h4
  have h4:none=R:=h4
  subst h4
  exact⟨_,rfl,rfl⟩
 rw[if_neg (by simpa using h15)]
 rw[if_neg h15] at h4
 dsimp only
 rw[if_neg (by decide)]
 refine hn _ ⟨⟨c,e,?_,?_,by omega,h4⟩,hdt⟩
 ·dsimp only
  rw[mget_mset,if_neg (by omega)];exact h1
 dsimp only
 rw[mget_mset,if_neg (by omega)];exact h2
theorem Vi {l:List JAA}(h :∃x∈D9 l 14,F2 x.Data=none):Ft l=none:=by
 obtain⟨x,hx,hr⟩:=h
 unfold Ft
 match D9 l 14,hx with
 | [y],hx=>
  rw[X14] at hx
  subst hx;exact hr
 | _::_::_,_=>rfl
theorem Ri {l:List JAA}(h :∃x∈D9 l 15,Fe x.Data=none):Da l=none:=by
 obtain⟨x,hx,hr⟩:=h
 unfold Da
 match D9 l 15,hx with
 | [y],hx=>
  rw[X14] at hx
  subst hx;exact hr
 | _::_::_,_=>rfl
theorem Vr {l:List JAA}(h:2<=(D9 l 14).length):Ft l=none:=by
 unfold Ft
 match D9 l 14,h with
 | [],h=>simp at h
 | [_],h=>simp at h
 | _::_::_,_=>rfl
theorem R1 {l:List JAA}(h:2<=(D9 l 15).length):Da l=none:=by
 unfold Da
 match D9 l 15,h with
 | [],h=>simp at h
 | [_],h=>simp at h
 | _::_::_,_=>rfl
theorem SpR.reach {l:List JAA}{p q:JAH}{c c' e e':Nat}(h:SpR l p q c c' e e')(hp:p.next=zAd/\p.new6=[])(hn:(D9 l 14).length<2):Ft l=some (q.next,q.new6):=by
 have h0:=h.a0
 have h1:=h.a1
 unfold Ft
 match D9 l 14,h0,h1,hn with
 | [],h0,_,_=>
  obtain⟨e1,e2⟩:=h0 rfl
  rw[e1,e2,hp.1,hp.2]
 | [x],_,h1,_=>exact h1 x rfl
 | _::_::t,_,_,hn=>exact absurd hn (by simp only[X12];omega)
theorem SpR.unreach {l:List JAA}{p q:JAH}{c c' e e':Nat}(h:SpR l p q c c' e e')(hp:p.gone6=[])(hn:(D9 l 15).length<2):Da l=some q.gone6:=by
 have h0:=h.b0
 have h1:=h.b1
 unfold Da
 match D9 l 15,h0,h1,hn with
 | [],h0,_,_=>
  have e1:=h0 rfl
  rw[e1,hp]
 | [x],_,h1,_=>exact h1 x rfl
 | _::_::t,_,_,hn=>exact absurd hn (by simp only[X12];omega)
theorem YL {ρ:Type}(x y A B C D:Bool)(K:Bool->Option ρ):AI (τ:=Bool) (fun k18=>
     if (!x)=true then
      k18 true
     else
      if (cond false true (!y))=true then
       k18 true
      else
       if A=true then
        if (cond false true (cond true B false))=true then
         k18 true
        else
         if (cond false true C)=true then
          k18 true
         else
          k18 (cond false true D)
       else
        if (cond false true C)=true then
         k18 true
        else
         k18 (cond false true D)) K=K (!x || (!y || ((A&&B) || (C || D)))):=by
 rw[AH]
 cases x<;>cases y<;>cases A<;>cases B<;>cases C<;>cases D<;>rfl
theorem dE (old gone four six:List JAD):(decide ((four.length:Int) > 0)&&decide ((six.length:Int) > 0) || (decide ((old.length:Int)+gone.length > 256) || decide ((four.length:Int)+six.length > 256)))=!okN old gone four six:=by
 have e1:decide ((four.length:Int) > 0)=decide (0<four.length):=by rw[decide_eq_decide];omega
 have e2:decide ((six.length:Int) > 0)=decide (0<six.length):=by rw[decide_eq_decide];omega
 have e3:decide ((old.length:Int)+gone.length > 256)=!decide (old.length+gone.length<=256):=by rw[<- decide_not,decide_eq_decide];omega
 have e4:decide ((four.length:Int)+six.length > 256)=!decide (four.length+six.length<=256):=by rw[<- decide_not,decide_eq_decide];omega
 rw[e1,e2,e3,e4]
 unfold okN
 cases decide (0 < four.length)<;>cases decide (0 < six.length)<;>cases decide (old.length+gone.length<=256)<;>cases decide (four.length+six.length<=256)<;>rfl
theorem NB {six:Bool}{b:List UInt8}{l:List JAD}(h:IH six b []=some l):l.length<=b.length:=by
 have:=X1 six _ _ _ _ h
 simpa using this
theorem UV {l:List JAA}{N:Nat}(hd :∀x∈l,x.Data.length<=N){p:List JAD}(h:Da l=some p):p.length<=N:=by
 unfold Da at h
 have hm :∀x∈D9 l 15,x.Data.length<=N:=fun x hx=>hd x (List.mem_filter.1 hx).1
 match D9 l 15,hm,h with
 | [],_,h=>obtain rfl:=X25 h;simp
 | [x],hm,h=>
  have h:Fe x.Data=some p:=h
  unfold Fe at h
  split at h
  ·have:=NB h
   have:=hm x (by simp)
   simp only[X17] at *
   omega
  cases h
theorem Wn {l:List JAA}{N:Nat}(hd :∀x∈l,x.Data.length<=N){a:Addr}{p:List JAD}(h:Ft l=some (a,p)):p.length<=N:=by
 unfold Ft at h
 have hm :∀x∈D9 l 14,x.Data.length<=N:=fun x hx=>hd x (List.mem_filter.1 hx).1
 match D9 l 14,hm,h with
 | [],_,h=>
  simp only[X24,X26] at h
  obtain⟨_,rfl⟩:=h;simp
 | [x],hm,h=>
  have h:F2 x.Data=some (a,p):=h
  unfold F2 at h
  split at h
  ·obtain⟨q,hq,he⟩:=Option.map_eq_some_iff.1 h
   simp only[X26] at he
   obtain⟨_,rfl⟩:=he
   have:=NB hq
   have:=hm x (by simp)
   simp only[X17] at *
   omega
  cases h
def p00:JAH:=⟨[],(⟨false,(0:UInt64),(0:UInt64)⟩:Addr),[],[],[],[]⟩
theorem YY {b:List UInt8}(hb:b.length<=400000) :∃r,C3 p00 b=some r/\(match L9 b with
  | none=>r.1=false
  | some P=>r=(true,⟨P.l,P.next,P.old,P.gone,P.four,P.six⟩)):=by
 unfold C3 L9
 rw[Vm (by omega),AC]
 unfold LN
 cases h1:Lh b with
 | none=>exact⟨_,rfl,rfl⟩
 | some q=>
  obtain⟨w,b1⟩:=q
  have l1:=LG h1
  dsimp only
  rw[if_neg (by decide),Vm (by omega),AC]
  unfold LN
  cases h2:Lh b1 with
  | none=>exact⟨_,rfl,rfl⟩
  | some q=>
   obtain⟨a,rest⟩:=q
   have l2:=LG h2
   dsimp only
   rw[if_neg (by decide),XK (by omega),AC]
   unfold Zd
   cases h3:SA a [] with
   | none=>exact⟨_,rfl,rfl⟩
   | some l=>
    obtain⟨s1,s2⟩:=VL (by omega) h3
    dsimp only
    rw[RB,AH,if_neg (by decide)]
    obtain⟨r,hr,hq⟩:=Up (p:={ p00 with attrs:=l }) (by show l.length<=_;omega) (fun x hx=>by have:=s2 x hx;omega)
    rw[hr,AC]
    have hq':(match spF l ({ p00 with attrs:=l },0,0) with
     | none=>r.1=false
     | some (q,c,e)=>r=(decide (c<2)&&decide (e<2),q)):=hq
    cases hs:spF l ({ p00 with attrs:=l },0,0) with
    | none=>
     rw[hs] at hq'
     rw[Em ((M5 hs).imp Vi fun z=>.inl (Ri z))]
     obtain⟨r1,r2⟩:=r
     have hq':r1=false:=hq'
     subst hq'
     exact⟨_,rfl,rfl⟩
    | some z=>
     obtain⟨q,c,e⟩:=z
     rw[hs] at hq'
     have hq':r=(decide (c<2)&&decide (e<2),q):=hq'
     subst hq'
     have sp:=M6 hs
     have c0:=sp.c
     have e0:=sp.e
     rw[Nat.zero_add] at c0 e0
     by_cases hc:(decide (c<2)&&decide (e<2))=true
     case neg=>
      have:Ft l=none\/Da l=none:=by
       rcases Nat.lt_or_ge c 2 with q1 | q1
       ·rcases Nat.lt_or_ge e 2 with q2 | q2
        ·exact absurd (by rw[decide_eq_true q1,decide_eq_true q2];rfl) hc
        exact .inr (R1 (by omega))
       exact .inl (Vr (by omega))
      rw[Em (this.imp id .inl),Bool.not_eq_true _ |>.mp hc]
      exact⟨_,rfl,rfl⟩
     rw[hc]
     rw[X27,decide_eq_true_eq,decide_eq_true_eq] at hc
     have hR:=sp.reach ⟨rfl,rfl⟩ (by omega)
     have hU:=sp.unreach rfl (by omega)
     obtain⟨ka,k4,kn⟩:=sp.k
     have ka:q.attrs=l:=ka
     rw[hR,hU]
     have n6:=Wn (N:=400000) (fun x hx=>s2 x hx) hR
     have g6:=UV (N:=400000) (fun x hx=>s2 x hx) hU
     dsimp only
     rw[if_neg (by decide),Gx (by omega),AC,Gx (by omega)]
     unfold ah
     cases hO:IH false w [] with
     | none=>rw[Em (.inr (.inr (.inl rfl)))];exact⟨_,rfl,rfl⟩
     | some old=>
      have lo:=NB hO
      cases hF:IH false rest [] with
      | none=>rw[Em (.inr (.inr (.inr rfl)))];exact⟨_,rfl,rfl⟩
      | some four=>
       have lf:=NB hF
       dsimp only
       rw[AC]
       dsimp only
       rw[YL,AO (x:=(old.length:Int)+(q.gone6.length:Int)) (by omega),AO (x:=(four.length:Int)+(q.new6.length:Int)) (by omega),dE,ka,Vk ⟨by omega,fun x hx=>by have:=s2 x hx;omega⟩,AC]
       rw[QE]
       cases hk:okN old q.gone6 four q.new6 with
       | false=>
        rw[if_neg (show ¬ (false=true/\(rdS l).2≠12) by simp)]
        exact⟨_,rfl,rfl⟩
       | true=>
        rw[if_neg (by decide)]
        by_cases h12:(rdS l).2=12
        ·rw[if_neg (fun z=>z.2 h12)]
         refine⟨_,rfl,?_⟩
         show ((rdS l).2 != 12)=false
         rw[h12];rfl
        rw[if_pos ⟨rfl,h12⟩]
        refine⟨_,rfl,?_⟩
        have:((rdS l).2 != 12)=true:=by simpa using h12
        dsimp only
        rw[this,<- ka]
theorem I2 {α σ ρ:Type}{K:σ->Option ρ}{b:(σ->Option ρ)->α->Nat->σ->Option ρ}{x:α}{t:List α}{i:Nat}{s:σ}:An K b (x::t) i s=b (fun s=>An K b t (i+1) s) x i s:=rfl
theorem V2 {α σ ρ:Type}{K:σ->Option ρ}{b:(σ->Option ρ)->α->Nat->σ->Option ρ}{i:Nat}{s:σ}:An K b [] i s=K s:=rfl
theorem SU {x y:List JAD}(hx:x.length<=100000)(hy:y.length<=100000):Ax [x,y]=some (x++y):=by
 unfold Ax
 rw[AH,I2]
 have e1:AN (0+(x.length:Int))=(x.length:Int):=by rw[AO (by omega)];omega
 have e2:AN ((x.length:Int)+(y.length:Int))=((x.length+y.length:Nat):Int):=by rw[AO (by omega)];omega
 rw[e1,if_neg (by simp only[decide_eq_true_eq];omega)]
 dsimp only
 rw[I2,e2,if_neg (by simp only[decide_eq_true_eq];omega)]
 dsimp only
 rw[V2]
 have e3:AN (((x.length+y.length:Nat):Int)-AN (0-0))=((x.length+y.length:Nat):Int):=by
  have:AN (0-0)=0:=AO (by omega)
  rw[this,AO (by omega)];omega
 have hk :∀(K:List JAD->Option (List JAD)),AI (τ:=(List JAD)) (fun k8=>
    if (decide ((AN (((x.length+y.length:Nat):Int)-(AN (0-0)))) > 0)) then
     Option.bind (chk (0<(AN (((x.length+y.length:Nat):Int)-(AN (0-0))))/\(AN (((x.length+y.length:Nat):Int)-(AN (0-0))))<=1048576)) fun _=>
     Option.bind (part (List.replicate (Int.toNat (AN (((x.length+y.length:Nat):Int)-(AN (0-0))))) (⟨(⟨false,(0:UInt64),(0:UInt64)⟩:Addr),0⟩:JAD)) 0 0) fun v9=>
     k8 v9
    else
     k8 []) K=K []:=by
  intro K
  rw[AH,e3]
  by_cases hz:x.length+y.length=0
  ·rw[if_neg (by simp only[decide_eq_true_eq];omega)]
  have p:part (List.replicate (Int.toNat ((x.length+y.length:Nat):Int)) (⟨(⟨false,(0:UInt64),(0:UInt64)⟩:Addr),0⟩:JAD)) 0 0=some []:=by
   have:=EZ (l:=List.replicate (Int.toNat ((x.length+y.length:Nat):Int)) (⟨(⟨false,(0:UInt64),(0:UInt64)⟩:Addr),0⟩:JAD)) (a:=0) (b:=0) (by omega) (by omega)
   rw[Nat.sub_self,List.take_zero] at this
   exact this
  rw[if_pos (by simp only[decide_eq_true_eq];omega),show chk _=some () from if_pos (by omega),AC,p,AC]
 rw[AH,if_neg (by simp only[decide_eq_true_eq];omega),hk]
 dsimp only
 rw[AH,I2,AP (by decide) (by simp only[X13];omega),AC]
 dsimp only
 rw[I2,AP (by decide) (by simp only[List.nil_append];omega),AC]
 dsimp only
 rw[V2,List.nil_append]
theorem WU (q:JAH)(t:Int):CV q t=some (Ei q.attrs t,q):=by
 have main :∀(l:List JAA) (i:Nat),∃n:Int,An (σ:=Int) (fun v2=>some (-1,v2)) (fun next3 (x4:JAA) i5 v2=>Option.bind (Cm x4 v2) fun (v6,v7)=>if v6 then some ((i5:Int),v7) else next3 v7) l i t=some (n,t)/\decide (n ≥ 0)=Ei l t:=by
  intro l
  induction l with
  | nil=>intro i;exact⟨-1,rfl,rfl⟩
  | cons x l ih=>
   intro i
   rw[I2]
   unfold Cm
   rw[AC]
   dsimp only
   have hc:Ei (x::l) t=((x.Type_==t) || Ei l t):=by
    unfold Ei
    rw[List.any_cons]
    congr 1
    exact X28.2 ⟨fun h=>by rw[beq_iff_eq] at h ⊢;exact h.symm,fun h=>by rw[beq_iff_eq] at h ⊢;exact h.symm⟩
   rw[hc]
   by_cases hx:(x.Type_==t)=true
   ·rw[if_pos hx,hx]
    exact⟨_,rfl,by simp⟩
   rw[if_neg hx,Bool.not_eq_true _ |>.mp hx]
   exact ih (i+1)
 obtain⟨n,h1,h2⟩:=main q.attrs 0
 unfold CV Ah Ak
 rw[AH]
 show Option.bind (Option.bind (An (σ:=Int) (fun v2=>some (-1,v2)) _ q.attrs 0 t) _) _=_
 rw[h1,AC,AC]
 dsimp only
 rw[h2]
theorem Wb (x:JAA):Bt x=some (flg x):=by
 unfold Bt flg
 rw[AH]
 show (if (x.Type_==14)=true then some (cond true (bt x.Flags 192 != 128) false) else if (cond false true (x.Type_==15))=true then some (cond true (bt x.Flags 192 != 128) false) else some false)=_
 cases (x.Type_==14)<;>cases (x.Type_==15)<;>cases (bt x.Flags 192 != 128)<;>rfl
theorem Wm (l:List JAA):Ae l=some (l.any flg):=aY (f:=Bt) (q:=flg) fun x _=>Wb x
theorem Y0 (P:Pt):DG ⟨P.l,P.next,P.old,P.gone,P.four,P.six⟩ (rdS P.l).1 (rdS P.l).2=some (W2 P,⟨P.l,P.next,P.old,P.gone,P.four,P.six⟩):=by
 unfold DG W2
 rw[AH]
 by_cases he:(rdS P.l).2=0
 ·rw[if_neg (by rw[he];decide),Wm,AC,WU,AC,decide_eq_false (fun h=>h he)]
  dsimp only
  rw[WU,AC]
  dsimp only
  have e1:decide ((P.four.length:Int) > 0)=decide (0<P.four.length):=by rw[decide_eq_decide];omega
  rw[e1]
  show (if (cond false true (P.l.any flg))=true then _ else _)=_
  have ez:Addr.eqd (rdS P.l).1.Next (⟨false,(0:UInt64),(0:UInt64)⟩:Addr)=Addr.eqd (rdS P.l).1.Next zAd:=rfl
  rw[ez]
  cases P.l.any flg<;>cases Ei P.l 1<;>cases Ei P.l 2<;>cases decide (0 < P.four.length)<;>cases Addr.eqd (rdS P.l).1.Next zAd<;>rfl
 rw[if_pos (by simpa using he),decide_eq_true (p:=(rdS P.l).2≠0) he]
 rfl
structure PtOK (b:List UInt8)(P:Pt):Prop where
 ok:okN P.old P.gone P.four P.six=true
 ne:(rdS P.l).2≠12
 l:P.l.length<=400000
 d :∀x∈P.l,x.Data.length<=400000
 h :∃w b1 a rest,Lh b=some (w,b1)/\Lh b1=some (a,rest)/\SA a []=some P.l/\Ft P.l=some (P.next,P.six)/\Da P.l=some P.gone/\IH false w []=some P.old/\IH false rest []=some P.four
theorem SJ {b:List UInt8}(hb:b.length<=400000){P:Pt}(h:L9 b=some P):PtOK b P:=by
 unfold L9 at h
 split at h
 ·cases h
 rename_i w b1 h1
 have l1:=LG h1
 split at h
 ·cases h
 rename_i a rest h2
 have l2:=LG h2
 cases h3:SA a [] with
 | none=>rw[h3] at h;cases h
 | some l=>
  rw[h3,RB] at h
  obtain⟨s1,s2⟩:=VL (by omega) h3
  cases hR:Ft l with
  | none=>rw[Em (.inl hR)] at h;cases h
  | some q=>
   obtain⟨n,six⟩:=q
   cases hU:Da l with
   | none=>rw[Em (.inr (.inl hU))] at h;cases h
   | some gone=>
    cases hO:IH false w [] with
    | none=>rw[Em (.inr (.inr (.inl hO)))] at h;cases h
    | some old=>
     cases hF:IH false rest [] with
     | none=>rw[Em (.inr (.inr (.inr hF)))] at h;cases h
     | some four=>
      rw[hR,hU,hO,hF,QE] at h
      split at h
      ·rename_i hc
       obtain rfl:=X25 h
       exact⟨hc.1,hc.2,s1,s2,w,b1,a,rest,h1,h2,h3,hR,hU,hO,hF⟩
      cases h
theorem Xt {old gone four six:List JAD}(h:okN old gone four six=true):old.length+gone.length<=256/\four.length+six.length<=256/\¬ (0<four.length/\0<six.length):=by
 unfold okN at h
 simp only[X27,Bool.not_eq_true',decide_eq_true_eq,Bool.and_eq_false_iff,decide_eq_false_iff_not] at h
 omega
theorem bI {α:Type}(l:List α):((l.length:Int)==0)=true↔l=[]:=by
 rw[beq_iff_eq,Int.natCast_eq_zero,List.length_eq_zero_iff]
theorem V8 {b:List UInt8}(hb:b.length<=400000):FV b=some (XP b):=by
 unfold FV XP
 obtain⟨r,hr,hq⟩:=YY hb
 show Option.bind (C3 p00 b) _=_
 rw[hr,AC]
 cases hP:L9 b with
 | none=>
  rw[hP] at hq
  obtain⟨r1,r2⟩:=r
  have hq:r1=false:=hq
  subst hq
  rfl
 | some P=>
  rw[hP] at hq
  have hq:r=(true,⟨P.l,P.next,P.old,P.gone,P.four,P.six⟩):=hq
  subst hq
  obtain⟨p1,p2,p3,p4,_⟩:=SJ hb hP
  obtain⟨n1,n2,_⟩:=Xt p1
  dsimp only
  rw[if_neg (by decide),SU (by omega) (by omega),AC,show Ff=some eA from rfl,AC,SU (by omega) (by omega),AC]
  by_cases h0:P.four++P.six=[]
  ·rw[if_pos ((bI _).2 h0),if_pos h0]
  rw[if_neg (fun h=>h0 ((bI _).1 h)),if_neg h0,Vk ⟨by omega,fun x hx=>by have:=p4 x hx;omega⟩,AC]
  rw[Y0,AC]
  dsimp only
  by_cases hf:W2 P=true
  ·rw[if_pos hf,if_pos hf,AP (by decide) (by simp only[X11];omega),AC]
  rw[if_neg hf,if_neg hf,AH]
  by_cases h6:0<P.six.length
  ·rw[if_pos (by simp only[decide_eq_true_eq];omega),if_pos h6]
  rw[if_neg (by simp only[decide_eq_true_eq];omega),if_neg h6]
def wr (x:JAA)(n:Int):Bool:=decide (n > 0)&&(bt x.Flags 192 != 128)
end Go.AX.Q19
end
