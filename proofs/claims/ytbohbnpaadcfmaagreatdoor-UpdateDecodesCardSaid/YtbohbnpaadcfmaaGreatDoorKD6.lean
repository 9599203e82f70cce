/-
  Texts of one proof, packed.
-/
import Derived.Test.YtbohbnpaadcfmaaGreatDoorKD4
import Derived.Test.YtbohbnpaadcfmaaGreatDoorKD5
import Derived.MapKept
set_option linter.all false
set_option maxRecDepth 100000
set_option maxHeartbeats 4000000
open List renaming length_append→X11,length_cons→X12,length_nil→X13,mem_singleton→X14,getElem?_eq_getElem→X15,getElem?_eq_some_iff→X16,length_drop→X17,length_take→X18,mem_cons_of_mem→X19,length_singleton→X22,mem_append→X23
open Option.some renaming injEq→X24,inj→X25
open Bool renaming and_eq_true→X27,eq_iff_iff→X28
section
namespace Go.AX
theorem aA {α ρ:Type}{g:α->Bool}{body:(Unit->Option ρ)->α->Nat->Unit->Option ρ}{K:Unit->Option ρ}{r0:Option ρ} :
  ∀{l:List α} {i:Nat},(∀next x i,x∈l->body next x i ()=cond (g x) (next ()) r0)->Ak K body l i ()=cond (l.all g) (K ()) r0
 | [],_,_=>rfl
 | x::t,i,h=>by
  show body (fun s=>Ak K body t (i+1) s) x i ()=_
  rw[h _ x i (by simp),List.all_cons]
  cases g x
  ·rfl
  exact aA fun next y j hy=>h next y j (X19 _ hy)
theorem eO {α:Type}{f:α->Option Bool}{q:α->Bool} :∀{l:List α} {i:Nat},(∀x∈l,f x=some (q x))->
  Ak (fun _=>some (-1)) (fun next x i _=>Option.bind (f x) fun v=>if v then some (i:Int) else next ()) l i ()=some (match l.findIdx? q with | some j=>((i+j:Nat):Int)|none=>-1)
 | [],_,_=>rfl
 | x::t,i,h=>by
  show Option.bind (f x) (fun v=>if v then some (i:Int) else Ak (fun _=>some (-1)) _ t (i+1) ())=_
  rw[h x (by simp),AA,List.findIdx?_cons]
  by_cases hq:q x=true
  ·rw[if_pos hq,if_pos hq];simp
  rw[if_neg hq,if_neg hq,eO fun y hy=>h y (X19 _ hy)]
  cases t.findIdx? q with
  | none=>rfl
  | some j=>simp only[Option.map_some];rw[show i+1+j=i+(j+1) by omega]
theorem cm {α:Type}{f:α->Option Bool}{q:α->Bool}{l:List α}(h :∀x∈l,f x=some (q x)) :
  (Option.bind (AC (τ:=Unit) (fun k1=>Ak (fun _=>k1 ()) (fun next x i _=>Option.bind (f x) fun v=>if v then some (i:Int) else next ()) l 0 ()) fun _=>some (-1)) fun v1=>some (decide (v1 ≥ 0)))=some (l.any q):=by
 rw[AB,eO h,AA]
 congr 1
 cases hf:l.findIdx? q with
 | none=>
  have:l.any q=false:=by
   rw[List.findIdx?_eq_none_iff] at hf
   simp only[List.any_eq_false]
   intro x hx
   simp[hf x hx]
  rw[this];rfl
 | some j=>
  have h1:=List.findIdx?_eq_some_iff_getElem.1 hf
  obtain⟨hj,hq,_⟩:=h1
  have:l.any q=true:=List.any_eq_true.2 ⟨_,List.getElem_mem hj,hq⟩
  rw[this]
  simp
theorem UN {a b:ByteArray}(h:(a==b)=true):a=b:=(Go.MapKept.bytes_beq a b).1 h
theorem dC {a:ByteArray}:(a==a)=true:=(Go.MapKept.bytes_beq a a).2 rfl
instance:LawfulBEq ByteArray:={ eq_of_beq:=UN,rfl:=dC }
section
variable {K V:Type} [BEq K] [LawfulBEq K]
theorem mget_mset (l:List (K×V))(k:K)(v:V)(k':K):BV (Cf l k v) k'=if k'==k then some v else BV l k':=by
 induction l with
 | nil=>
  unfold Cf
  simp only[BV]
 | cons p l ih=>
  unfold Cf
  by_cases hp:(k==p.1)=true
  ·rw[if_pos hp]
   have:=eq_of_beq hp
   simp only[BV]
   by_cases hk:(k'==k)=true
   ·rw[if_pos hk,if_pos hk]
   rw[if_neg hk,if_neg hk,if_neg (by rw[<- this];exact hk)]
  rw[if_neg hp]
  simp only[BV,ih]
  by_cases hk:(k'==k)=true
  ·have:=eq_of_beq hk
   subst this
   rw[if_neg hp,if_pos hk,if_pos hk]
  rw[if_neg hk,if_neg hk]
end
theorem GV {α:Type}(p:α->Bool)(l:List α):(l.takeWhile p).length<=l.length:=(List.takeWhile_prefix p).length_le
theorem Nn {α:Type}{p:α->Bool} :∀{l:List α} {k:Nat} (hk:k<l.length),k<=(l.takeWhile p).length->(k<(l.takeWhile p).length↔p l[k]=true)
 | [],_,hk,_=>by simp at hk
 | x::t,k,hk,h=>by
  rw[List.takeWhile_cons] at h ⊢
  by_cases hp:p x=true
  ·rw[if_pos hp] at h ⊢
   cases k with
   | zero=>simp[hp]
   | succ k=>simpa using Nn (p:=p) (l:=t) (k:=k) (by simpa using hk) (by simpa using h)
  rw[if_neg hp] at h ⊢
  have:k=0:=by simpa using h
  subst this
  simp[hp]
theorem cB {α ρ:Type}{l:List α}{p:α->Bool}(g:α->(Bool->Option ρ)->Option ρ){K:Int->Option ρ}(hl:l.length<=1000000000000)(hg :∀x∈l,∀k,g x k=k (p x)) :
  AC (fun k1=>Ao (fun next v=>AC (fun k2=>if decide (v<(l.length:Int)) then Option.bind (geti l v) fun x=>g x k2 else k2 false) (fun c=>if c=true then next (AD (v+1)) else k1 v)) fuel 0) K=K ((l.takeWhile p).length:Int):=by
 have ht:=GV p l
 rw[AB,B9 (fun v:Int=>0<=v/\v<=((l.takeWhile p).length:Int)) (fun v=>(l.length-v).toNat) (fun _=>K ((l.takeWhile p).length:Int)) ?_ fuel 0 (by omega) (BS (by omega))]
 intro next v hv hn
 obtain⟨k,rfl⟩ :∃k:Nat,v=k:=⟨v.toNat,by omega⟩
 rw[AB]
 by_cases hk:k<l.length
 ·rw[if_pos (by simpa using hk),CS hk,AA,hg _ (List.getElem_mem hk)]
  have h:=Nn (p:=p) hk (by omega)
  by_cases hp:p l[k]=true
  ·rw[if_pos hp,AP (by omega)]
   have:=h.2 hp
   exact hn _ (by omega) (by omega)
  rw[if_neg hp]
  have:¬ k<(l.takeWhile p).length:=fun q=>hp (h.1 q)
  have:k=(l.takeWhile p).length:=by omega
  rw[this]
 rw[if_neg (by simpa using hk)]
 have:k=(l.takeWhile p).length:=by omega
 subst this
 rfl
theorem Sv {α:Type}[DecidableEq α] :∀{l m:List α},l.Nodup->(∀x∈l,x∈m)->l.length<=m.length
 | [],_,_,_=>Nat.zero_le _
 | x::t,m,h,hs=>by
  obtain⟨h1,h2⟩:=List.nodup_cons.1 h
  have hx:=hs x (by simp)
  have:=Sv (m:=m.erase x) h2 fun y hy=>(List.mem_erase_of_ne (fun e=>h1 (by rw[<- e];exact hy))).2 (hs y (X19 _ hy))
  rw[List.length_erase_of_mem hx] at this
  have:0<m.length:=List.length_pos_of_mem hx
  simp only[X12]
  omega
theorem JR {α:Type}{lt:α->α->Prop}(hirr :∀a,¬ lt a a)(htr :∀a b c,lt a b->lt b c->lt a c) :∀{l m:List α},l.Pairwise lt->m.Pairwise lt->(∀x,x∈l↔x∈m)->l=m
 | [],[],_,_,_=>rfl
 | [],y::m,_,_,h=>by have:=(h y).2 (by simp);simp at this
 | x::l,[],_,_,h=>by have:=(h x).1 (by simp);simp at this
 | x::l,y::m,h1,h2,h=>by
  obtain⟨a1,a2⟩:=List.pairwise_cons.1 h1
  obtain⟨b1,b2⟩:=List.pairwise_cons.1 h2
  have hxy:x=y:=by
   rcases List.mem_cons.1 ((h x).1 (by simp)) with e | e
   ·exact e
   rcases List.mem_cons.1 ((h y).2 (by simp)) with e' | e'
   ·exact e'.symm
   exact absurd (htr _ _ _ (a1 y e') (b1 x e)) (hirr x)
  subst hxy
  congr 1
  refine JR hirr htr a2 b2 fun z=>?_
  constructor
  ·intro hz
   rcases List.mem_cons.1 ((h z).1 (X19 _ hz)) with e | e
   ·subst e;exact absurd (a1 z hz) (hirr z)
   exact e
  intro hz
  rcases List.mem_cons.1 ((h z).2 (X19 _ hz)) with e | e
  ·subst e;exact absurd (b1 z hz) (hirr z)
  exact e
def H3 {α:Type}(lt:α->α->Bool)(l:List α)(x:α):List α:=l.takeWhile (lt · x)++x::l.dropWhile (lt · x)
theorem It {α:Type}{lt:α->α->Bool}{l:List α}{x y:α}:y∈H3 lt l x↔y∈l\/y=x:=by
 unfold H3
 have:y∈l↔y∈l.takeWhile (lt · x)\/y∈l.dropWhile (lt · x):=by
  rw[<- X23,List.takeWhile_append_dropWhile]
 rw[this,X23,List.mem_cons]
 constructor
 ·rintro (h | h | h)
  ·exact .inl (.inl h)
  ·exact .inr h
  exact .inl (.inr h)
 rintro ((h | h)|h)
 ·exact .inl h
 ·exact .inr (.inr h)
 exact .inr (.inl h)
theorem Is {α:Type}(lt:α->α->Bool)(l:List α)(x:α):(H3 lt l x).length=l.length+1:=by
 unfold H3
 have:=congrArg List.length (List.takeWhile_append_dropWhile (p:=(lt · x)) (l:=l))
 simp only[X11,X12] at this ⊢
 omega
theorem Lt {α:Type}(p:α->Bool){l:List α}{x:α}(h:x∈l.takeWhile p):p x=true:=by
 induction l with
 | nil=>simp at h
 | cons y t ih=>
  rw[List.takeWhile_cons] at h
  split at h
  ·rcases List.mem_cons.1 h with rfl | h
   ·assumption
   exact ih h
  simp at h
theorem IG {α:Type}{lt:α->α->Bool}(htr :∀a b c,lt a b=true->lt b c=true->lt a c=true)(htot :∀a b,lt a b=false->a=b\/lt b a=true){l:List α}{x:α}(h:l.Pairwise fun a b=>lt a b=true)(hx:x∉l) :
  (H3 lt l x).Pairwise fun a b=>lt a b=true:=by
 have h0:=h
 rw[<- List.takeWhile_append_dropWhile (p:=(lt · x)) (l:=l),List.pairwise_append] at h
 obtain⟨h1,h2,h3⟩:=h
 have hd :∀b∈l.dropWhile (lt · x),lt x b=true:=by
  cases hl:l.dropWhile (lt · x) with
  | nil=>intro b hb;simp at hb
  | cons y t=>
   have hy:lt y x=false:=by
    have:=List.head?_dropWhile_not (lt · x) l
    rw[hl] at this
    simpa using this
   have hyl:y∈l:=by
    have:y∈l.dropWhile (lt · x):=by rw[hl];simp
    exact List.dropWhile_subset _ this
   have hxy:lt x y=true:=by
    rcases htot _ _ hy with e | e
    ·subst e;exact absurd hyl hx
    exact e
   rw[hl] at h2
   intro b hb
   rcases List.mem_cons.1 hb with rfl | hb
   ·exact hxy
   exact htr _ _ _ hxy ((List.pairwise_cons.1 h2).1 b hb)
 unfold H3
 rw[List.pairwise_append]
 refine⟨h1,List.pairwise_cons.2 ⟨hd,h2⟩,fun a ha b hb=>?_⟩
 rcases List.mem_cons.1 hb with e | hb
 ·rw[e];exact Lt (lt · x) ha
 exact h3 a ha b hb
theorem takeWhile_take {α:Type}(p:α->Bool)(l:List α):l.take (l.takeWhile p).length=l.takeWhile p/\l.drop (l.takeWhile p).length=l.dropWhile p:=by
 have h:=List.takeWhile_append_dropWhile (p:=p) (l:=l)
 constructor
 ·conv=>lhs;arg 2;rw[<- h]
  rw[List.take_left']
  rfl
 conv=>lhs;arg 2;rw[<- h]
 rw[List.drop_left']
 rfl
end Go.AX
end
section
namespace Go.AX
def ax (a b:Int):Int:=if a<b then -1 else if b<a then 1 else 0
def orI:List Int->Int
 | []=>0
 | x::t=>if x=0 then orI t else x
def Fb:List Int->List Int->Int
 | x::s,y::t=>if x<y then -1 else if y<x then 1 else Fb s t
 | _,_=>0
theorem Wj (x:Int)(t:List Int):orI (x::t)=if x=0 then orI t else x:=rfl
theorem Np (x y:Int)(t:List Int):orI (ax x y::t)=if x<y then -1 else if y<x then 1 else orI t:=by
 rw[Wj]
 unfold ax
 split
 ·rfl
 split<;>simp
theorem TE (x y:Int)(s t:List Int):Fb (x::s) (y::t)=if x<y then -1 else if y<x then 1 else Fb s t:=rfl
theorem ac:Fb [] []=0:=rfl
theorem TV :∀a:List Int,Fb a a=0
 | []=>rfl
 | x::t=>by unfold Fb;simp[TV t]
theorem TL :∀{a b:List Int},a.length=b.length->Fb a b=0->a=b
 | [],[],_,_=>rfl
 | [],_::_,h,_=>by simp at h
 | _::_,[],h,_=>by simp at h
 | x::s,y::t,h,e=>by
  unfold Fb at e
  split at e
  ·simp at e
  split at e
  ·simp at e
  rw[TL (by simpa using h) e,show x=y by omega]
theorem Vf :∀a b:List Int,Fb b a=- Fb a b
 | [],[]=>rfl
 | [],_::_=>rfl
 | _::_,[]=>rfl
 | x::s,y::t=>by
  unfold Fb
  have:=Vf s t
  split<;>split<;>first | omega | (split<;>omega)
theorem YO :∀{a b c:List Int},a.length=b.length->b.length=c.length->Fb a b<0->Fb b c<0->Fb a c<0
 | [],_,_,_,_,h,_=>by simp[Fb] at h
 | _::_,[],_,h,_,_,_=>by simp at h
 | _::_,_::_,[],_,h,_,_=>by simp at h
 | x::s,y::t,z::u,h1,h2,h3,h4=>by
  have ih:=@YO s t u (by simpa using h1) (by simpa using h2)
  unfold Fb at h3 h4 ⊢
  by_cases a1:x<y
  ·by_cases a2:y<z
   ·rw[if_pos (by omega)];omega
   rw[if_neg a2] at h4
   by_cases a3:z<y
   ·rw[if_pos a3] at h4;omega
   rw[if_pos (by omega)];omega
  rw[if_neg a1] at h3
  by_cases a4:y<x
  ·rw[if_pos a4] at h3;omega
  rw[if_neg a4] at h3
  have:x=y:=by omega
  subst this
  by_cases a2:x<z
  ·rw[if_pos a2];omega
  rw[if_neg a2] at h4 ⊢
  by_cases a3:z<x
  ·rw[if_pos a3] at h4;omega
  rw[if_neg a3] at h4 ⊢
  exact ih h3 h4
section
variable {X:Type} {key:X->List Int}
def ltK (key:X->List Int)(a b:X):Bool:=decide (Fb (key a) (key b)<0)
theorem N2 (a:X):ltK key a a=false:=by unfold ltK;rw[TV];rfl
theorem PD (hl :∀a b:X,(key a).length=(key b).length)(a b c:X)(h1:ltK key a b=true)(h2:ltK key b c=true):ltK key a c=true:=by
 unfold ltK at *
 simp only[decide_eq_true_eq] at *
 exact YO (hl _ _) (hl _ _) h1 h2
theorem NP (hl :∀a b:X,(key a).length=(key b).length)(a b:X)(h:ltK key a b=false):key a=key b\/ltK key b a=true:=by
 unfold ltK at *
 simp only[decide_eq_false_iff_not,decide_eq_true_eq] at *
 have:=Vf (key a) (key b)
 by_cases h0:Fb (key a) (key b)=0
 ·exact .inl (TL (hl _ _) h0)
 exact .inr (by omega)
theorem Vu (hl :∀a b:X,(key a).length=(key b).length)(a b:X)(h:ltK key a b=true):ltK key b a=false:=by
 cases h1:ltK key b a
 ·rfl
 have:=PD hl _ _ _ h h1
 rw[N2] at this;simp at this
theorem bN (hl :∀a b:X,(key a).length=(key b).length)(a b c:X)(h1:ltK key a b=false)(h2:ltK key b c=false):ltK key a c=false:=by
 rcases NP hl _ _ h1 with e | h1
 ·unfold ltK at *;rw[e];exact h2
 rcases NP hl _ _ h2 with e | h2
 ·refine Vu hl _ _ ?_
  unfold ltK at *;rw[<- e];exact h1
 exact Vu hl _ _ (PD hl _ _ _ h2 h1)
variable {cmp:X->X->Option Int}
theorem X5 (hc :∀a b,cmp a b=some (Fb (key a) (key b)))(a b:X):ltC cmp a b=ltK key a b:=by unfold ltC;rw[hc];rfl
theorem QG (hl :∀a b:X,(key a).length=(key b).length)(hc :∀a b,cmp a b=some (Fb (key a) (key b))){l:List X}(hn:l.length<=1000000000) :
  Ok (Ez cmp l) fun r=>r.Perm l/\r.Pairwise fun a b=>ltK key b a=false:=by
 obtain⟨r,hr⟩:=XY (cmp:=cmp) (l:=l) (bT (fun a _ b _=>⟨_,hc a b⟩) (fun a _=>by rw[X5 hc,N2])
  (fun a _ b _ c _ h1 h2=>by rw[X5 hc] at *;exact PD hl _ _ _ h1 h2) (fun a _ b _ c _ h1 h2=>by rw[X5 hc] at *;exact bN hl _ _ _ h1 h2) hn)
 obtain⟨h1,h2⟩:=MX hr
 exact⟨r,hr,h1,h2.imp fun h=>by rw[X5 hc] at h;exact h⟩
theorem S4 {l:List X}(hl :∀a b:X,(key a).length=(key b).length)(h1:l.Pairwise fun a b=>ltK key b a=false)(h2:l.Pairwise fun a b=>key a≠key b):l.Pairwise fun a b=>ltK key a b=true:=
 (h1.and h2).imp fun {a b} h=>(NP hl b a h.1).resolve_left fun e=>h.2 e.symm
theorem Xq (hl :∀a b:X,(key a).length=(key b).length){l m:List X}(h1:l.Pairwise fun a b=>ltK key a b=true)(h2:m.Pairwise fun a b=>ltK key a b=true)(h :∀x,x∈l↔x∈m):l=m:=
 JR (lt:=fun a b=>ltK key a b=true) (fun a h=>by rw[N2] at h;simp at h) (fun a b c=>PD hl a b c) h1 h2 h
end
theorem aK {α:Type}{lt:α->α->Bool}(htr :∀a b c,lt a b=true->lt b c=true->lt a c=true)(hirr :∀a,lt a a=false){l:List α}{x:α}(hs:l.Pairwise fun a b=>lt a b=true) :
  x∈l↔l[(l.takeWhile (lt · x)).length]?=some x:=by
 constructor
 ·intro hx
  rw[<- List.takeWhile_append_dropWhile (p:=(lt · x)) (l:=l),X23] at hx
  rcases hx with hx | hx
  ·have:=Lt (lt · x) hx
   rw[hirr] at this
   simp at this
  have h2:=(takeWhile_take (lt · x) l).2
  cases hd:l.dropWhile (lt · x) with
  | nil=>rw[hd] at hx;simp at hx
  | cons y t=>
   have hy:lt y x=false:=by
    have:=List.head?_dropWhile_not (lt · x) l
    rw[hd] at this
    simpa using this
   have hp:(y::t).Pairwise fun a b=>lt a b=true:=by
    rw[<- hd]
    exact hs.sublist (List.dropWhile_sublist _)
   rw[hd] at hx
   have hxy:x=y:=by
    rcases List.mem_cons.1 hx with e | e
    ·exact e
    have:=(List.pairwise_cons.1 hp).1 x e
    rw[hy] at this;simp at this
   have h3:(l.drop (l.takeWhile (lt · x)).length)[0]?=some x:=by rw[h2,hd,hxy];rfl
   rw[List.getElem?_drop] at h3
   simpa using h3
 intro h
 exact List.mem_of_getElem? h
def KU {α:Type}(e:α->α->Bool)(z:α)(a0:List α):Option (List α):=
 if (decide ((a0.length:Int)<2)) then
  some a0
 else
  AC (τ:=Unit) (fun k1=>
   Ao (σ:=Int) (fun next2 v3=>
    if (decide (v3<(a0.length:Int))) then
     AC (τ:=Unit) (fun k4=>
      Option.bind (geti a0 v3) fun v5=>
      Option.bind (geti a0 (AD (v3-1))) fun v6=>
      if (e v5 v6) then
       Option.bind (chk (0<=v3/\v3<=(a0.length:Int)/\(a0.length:Int)<=(a0.length:Int))) fun _=>
       AC (τ:=Int×(List α)) (fun k7=>
        Ao (σ:=Int×Int×(List α)) (fun next8 (v9,v10,v11)=>
         if (decide (v10<(((Int.toNat (a0.length:Int)-Int.toNat v3):Nat):Int))) then
          Option.bind (geti (List.take (Int.toNat (a0.length:Int)-Int.toNat v3) (List.drop (Int.toNat v3) v11)) v10) fun v12=>
          Option.bind (geti (List.take (Int.toNat (a0.length:Int)-Int.toNat v3) (List.drop (Int.toNat v3) v11)) (AD (v10-1))) fun v13=>
          AC (τ:=Int×(List α)) (fun k14=>
           if (!(e v12 v13)) then
            Option.bind (geti (List.take (Int.toNat (a0.length:Int)-Int.toNat v3) (List.drop (Int.toNat v3) v11)) v10) fun v15=>
            Option.bind (geti v11 v9) fun v16=>
            Option.bind (seti v11 v9 v15) fun v17=>
            k14 ((AD (v9+1)),v17)
           else
            k14 (v9,v11)
          ) fun (v18,v19)=>
          next8 (v18,(AD (v10+1)),v19)
         else
          k7 (v9,v11)
        ) fuel (v3,1,a0)
       ) fun (v20,v21)=>
       Option.bind (chk (0<=v20/\v20<=(v21.length:Int)/\(v21.length:Int)<=(v21.length:Int))) fun _=>
       Option.bind (part (List.take (Int.toNat v20) v21++List.replicate (Int.toNat (v21.length:Int)-Int.toNat v20) z++List.drop ((Int.toNat v20)+(Int.toNat (v21.length:Int)-Int.toNat v20)) v21) 0 v20) fun v22=>
       some v22
      else
       k4 ()
     ) fun _=>
     next2 (AD (v3+1))
    else
     k1 ()
   ) fuel 1
  ) fun _=>
  some a0
theorem bO {α:Type}{l:List α}{i:Int}{x:α}(h0:0<=i)(h:l[i.toNat]?=some x):geti l i=some x:=by
 have:=(X16.1 h).1
 unfold geti
 rw[if_pos (by omega),h]
theorem VJ {α:Type}{l:List α}{i:Nat}{x:α}(h:i<l.length):(l.set i x).take (i+1)=l.take i++[x]:=by
 rw[List.take_add_one,List.take_set_of_le (Nat.le_refl _),List.getElem?_set_self h]
 rfl
section
variable {α:Type} {lt:α->α->Bool} (hirr :∀a,lt a a=false) (htr :∀a b c,lt a b=true->lt b c=true->lt a c=true) (htot :∀a b,lt a b=false->a=b\/lt b a=true)
include htr htot
theorem ap {p q:List α}{y z:α}(hp:p.Pairwise fun a b=>lt a b=true)(hm :∀x,x∈p↔x∈q)(hq :∀x∈q,lt z x=false)(hyz:lt y z=false)(hne:y≠z) :
  (p++[y]).Pairwise (fun a b=>lt a b=true)/\∀x,x∈p++[y]↔x∈q++[y]:=by
 refine⟨List.pairwise_append.2 ⟨hp,by simp,fun x hx w hw=>?_⟩,fun x=>by rw[X23,X23,hm]⟩
 rw[X14] at hw
 subst hw
 have h1:=hq x ((hm x).1 hx)
 have h2:lt z w=true:=(htot _ _ hyz).resolve_left hne
 rcases htot _ _ h1 with e | e
 ·rw[<- e];exact h2
 exact htr _ _ _ e h2
include hirr
theorem KA {e:α->α->Bool}{zz:α}(he :∀a b,e a b=true↔a=b){l:List α}(hs:l.Pairwise fun a b=>lt b a=false)(hl:l.length<=1000000000) :
  Ok (KU e zz l) fun c=>c.Pairwise (fun a b=>lt a b=true)/\(∀x,x∈c↔x∈l):=by
 have hprev :∀(k:Nat) (z:α),l[k]?=some z->∀x∈l.take (k+1),lt z x=false:=by
  intro k z hk x hx
  obtain⟨i,hi,rfl⟩:=List.mem_iff_getElem.1 hx
  rw[X18] at hi
  obtain⟨hk1,rfl⟩:=X16.1 hk
  rw[List.getElem_take]
  by_cases e:i=k
  ·subst e;exact hirr _
  exact List.pairwise_iff_getElem.1 hs i k (by omega) hk1 (by omega)
 have hnext :∀(k:Nat) (z y:α),l[k]?=some z->l[k+1]?=some y->lt y z=false:=by
  intro k z y hk hy
  obtain⟨hk1,rfl⟩:=X16.1 hk
  obtain⟨hk2,rfl⟩:=X16.1 hy
  exact List.pairwise_iff_getElem.1 hs k (k+1) hk1 hk2 (by omega)
 have htk :∀(k:Nat) (y:α),l[k]?=some y->l.take (k+1)=l.take k++[y]:=by
  intro k y hk
  rw[List.take_add_one,hk];rfl
 have hmem :∀(k:Nat) (z:α),l[k]?=some z->z∈l.take (k+1):=by
  intro k z hk;rw[htk k z hk];simp
 unfold KU
 refine .ite (fun h=>?_) fun h=>?_
 ·simp only[decide_eq_true_eq] at h
  refine .ret ⟨?_,fun _=>Iff.rfl⟩
  match l,h with
  | [],_=>exact .nil
  | [x],_=>simp
  | x::y::t,h=>simp at h;omega
 simp only[decide_eq_true_eq] at h
 refine .join (fun _=>l.Pairwise fun a b=>lt a b=true) (fun k1 hk1=>?_) fun _ h=>.ret ⟨h,fun _=>Iff.rfl⟩
 refine .whileI (fun v:Int=>1<=v/\v<=l.length/\(l.take v.toNat).Pairwise fun a b=>lt a b=true) (fun v=>(l.length-v).toNat) ⟨by omega,by omega,?_⟩ (BS (by omega)) fun next v hv hnx=>?_
 ·match l,h with
  | x::t,_=>simp
  | [],h=>simp at h
 obtain⟨v1,v2,v3⟩:=hv
 refine .ite (fun hlt=>?_) fun hge=>?_
 rotate_left
 ·simp only[decide_eq_true_eq] at hge
  refine hk1 () ?_
  have:v.toNat=l.length:=by omega
  rw[this,List.take_length] at v3
  exact v3
 simp only[decide_eq_true_eq] at hlt
 obtain⟨n,rfl⟩ :∃n:Nat,v=((n+1:Nat):Int):=⟨(v-1).toNat,by omega⟩
 have hn:n+1<l.length:=by omega
 have gy:l[n+1]?=some l[n+1]:=X15 hn
 have gz:l[n]?=some l[n]:=X15 (by omega)
 have e1:geti l ((n+1:Nat):Int)=some l[n+1]:=CS hn
 have e2:geti l (AD (((n+1:Nat):Int)-1))=some l[n]:=by
  rw[AP (by omega),show ((n+1:Nat):Int)-1=(n:Int) by omega]
  exact CS (by omega)
 refine .join (fun _=>l[n+1]≠l[n]) (fun k4 hk4=>?_) fun _ hne=>?_
 rotate_left
 ·rw[AP (by omega)]
  refine hnx _ ⟨by omega,by omega,?_⟩ (by omega)
  have:=(ap htr htot (p:=l.take (n+1)) (q:=l.take (n+1)) v3 (fun _=>Iff.rfl) (hprev n _ gz) (hnext n _ _ gz gy) hne).1
  rw[<- htk _ _ gy] at this
  have e:(((n+1:Nat):Int)+1).toNat=n+1+1:=by omega
  rw[e];exact this
 rw[e1,AA,e2,AA]
 refine .ite (fun heq=>?_) fun hne=>hk4 _ fun e=>hne ((he _ _).2 e)
 have heq:=(he _ _).1 heq
 refine .bind (Ok.chk (by omega)) fun _ _=>?_
 refine .join (fun p:Int×List α=>0<=p.1/\p.1<=l.length/\p.2.length=l.length/\(p.2.take p.1.toNat).Pairwise (fun a b=>lt a b=true)/\∀x,x∈p.2.take p.1.toNat↔x∈l) (fun k7 hk7=>?_) ?_
 ·refine .whileI (fun p:Int×Int×List α=>0<=p.1/\1<=p.2.1/\p.1<=(n+1:Nat)+p.2.1-1/\(n+1:Nat)+p.2.1<=l.length/\p.2.2.length=l.length/\(∀j:Nat,p.1<=j->p.2.2[j]?=l[j]?)/\
    (p.2.2.take p.1.toNat).Pairwise (fun a b=>lt a b=true)/\∀x,x∈p.2.2.take p.1.toNat↔x∈l.take ((n+1:Nat)+p.2.1).toNat) (fun p=>(l.length-p.2.1).toNat) ⟨by dsimp only;omega,by dsimp only;omega,by dsimp only;omega,by dsimp only;omega,rfl,fun _ _=>rfl,v3,fun x=>?_⟩ (BS (by dsimp only;omega)) ?_
  ·dsimp only
   have e:(((n+1:Nat):Int)+1).toNat=n+1+1:=by omega
   rw[e,htk _ _ gy,Int.toNat_natCast]
   constructor
   ·exact fun h=>List.mem_append_left _ h
   intro h
   rcases X23.1 h with h | h
   ·exact h
   rw[X14] at h
   rw[h,heq];exact hmem n _ gz
  rintro next ⟨i,k,a⟩ ⟨q1,q2,q3,q4,q5,q6,q7,q8⟩ hnx2
  dsimp only at q1 q2 q3 q4 q5 q6 q7 q8 ⊢
  refine .ite (fun hk=>?_) fun hk=>?_
  rotate_left
  ·simp only[decide_eq_true_eq] at hk
   refine hk7 (i,a) ⟨q1,by dsimp only;omega,q5,q7,fun x=>?_⟩
   dsimp only
   rw[q8 x,show ((n+1:Nat)+k).toNat=l.length by omega,List.take_length]
  simp only[decide_eq_true_eq] at hk
  obtain⟨m,rfl⟩ :∃m:Nat,k=((m+1:Nat):Int):=⟨(k-1).toNat,by omega⟩
  have hml:n+1+(m+1)<l.length:=by omega
  have gy2:l[n+1+(m+1)]?=some l[n+1+(m+1)]:=X15 hml
  have gz2:l[n+1+m]?=some l[n+1+m]:=X15 (by omega)
  have ge :∀j:Nat,n+1+j<l.length->i<=((n+1+j:Nat):Int)->∀y,l[n+1+j]?=some y->geti (List.take (Int.toNat (l.length:Int)-Int.toNat ((n+1:Nat):Int)) (List.drop (Int.toNat ((n+1:Nat):Int)) a)) (j:Int)=some y:=by
   intro j hj hij y hy
   refine bO (by omega) ?_
   rw[Int.toNat_natCast,Int.toNat_natCast,Int.toNat_natCast,List.getElem?_take_of_lt (by omega),List.getElem?_drop,q6 _ hij]
   exact hy
  have r1:=ge (m+1) hml (by omega) _ gy2
  have r2:=ge m (by omega) (by omega) _ gz2
  rw[r1,AA,AP (x:=((m+1:Nat):Int)-1) (by omega),show ((m+1:Nat):Int)-1=(m:Int) by omega,r2,AA]
  refine .join (fun p:Int×List α=>0<=p.1/\p.1<=(n+1:Nat)+((m+1:Nat):Int)/\p.2.length=l.length/\(∀j:Nat,p.1<=j->p.2[j]?=l[j]?)/\
    (p.2.take p.1.toNat).Pairwise (fun a b=>lt a b=true)/\∀x,x∈p.2.take p.1.toNat↔x∈l.take (n+1+(m+1)+1)) (fun k14 hk14=>?_) ?_
  ·have et:((n+1:Nat)+((m+1:Nat):Int)).toNat=n+1+(m+1):=by omega
   rw[et] at q8
   refine .ite (fun hne=>?_) fun heq2=>?_
   ·have hne:l[n+1+(m+1)]≠l[n+1+m]:=fun e=>by rw[(he _ _).2 e] at hne;simp at hne
    rw[AA]
    have hia:i.toNat<a.length:=by omega
    refine .bind (Ok.geti (by omega)) fun _ _=>.bind (Ok.seti (by omega)) fun a' ha'=>hk14 _ ?_
    rw[AP (by omega)]
    have ei:(i+1).toNat=i.toNat+1:=by omega
    have hc:=ap htr htot (y:=l[n+1+(m+1)]) (z:=l[n+1+m]) q7 q8 (by rw[show n+1+(m+1)=n+1+m+1 by omega];exact hprev _ _ gz2) (hnext _ _ _ gz2 gy2) hne
    refine⟨by dsimp only;omega,by dsimp only;omega,ha'.2.trans q5,fun j hj=>?_,?_,?_⟩
    ·dsimp only at hj ⊢
     rw[ha'.1,List.getElem?_set_ne (by omega)]
     exact q6 j (by omega)
    ·dsimp only
     rw[ei,ha'.1,VJ hia]
     exact hc.1
    dsimp only
    rw[ei,ha'.1,VJ hia,htk _ _ gy2]
    exact hc.2
   have heq2:l[n+1+(m+1)]=l[n+1+m]:=by
    refine (he _ _).1 ?_
    cases h:e l[n+1+(m+1)] l[n+1+m]
    ·rw[h] at heq2;simp at heq2
    rfl
   refine hk14 _ ⟨q1,by dsimp only;omega,q5,q6,q7,fun x=>?_⟩
   dsimp only
   rw[q8 x,htk _ _ gy2]
   constructor
   ·exact fun h=>List.mem_append_left _ h
   intro h
   rcases X23.1 h with h | h
   ·exact h
   rw[X14] at h
   rw[h,heq2];exact hmem _ _ gz2
  rintro⟨i',a'⟩ ⟨p1,p2,p3,p4,p5,p6⟩
  dsimp only at p1 p2 p3 p4 p5 p6 ⊢
  rw[AP (by omega)]
  refine hnx2 _ ⟨p1,by dsimp only;omega,by dsimp only;omega,by dsimp only;omega,p3,p4,p5,fun x=>?_⟩ (by dsimp only;omega)
  dsimp only
  rw[p6 x,show ((n+1:Nat)+(((m+1:Nat):Int)+1)).toNat=n+1+(m+1)+1 by omega]
 rintro⟨i,a⟩ ⟨p1,p2,p3,p4,p5⟩
 dsimp only at p1 p2 p3 p4 p5 ⊢
 refine .bind (Ok.chk (by omega)) fun _ _=>.bind (Ok.part ⟨by omega,by omega,by simp;omega⟩) fun c hc=>.ret ?_
 have:c=a.take i.toNat:=by
  rw[hc.1]
  simp only[Int.toNat_zero,List.drop_zero,Nat.sub_zero]
  rw[List.append_assoc,List.take_append_of_le_length (by simp;omega),List.take_take,Nat.min_self]
 rw[this]
 exact⟨p4,p5⟩
end
theorem Y8 {l:List Int}(hl:l.length<=1000000000):Ok (Lx l) fun r=>r.Perm l/\r.Pairwise fun a b=>decide (b<a)=false:=by
 unfold Lx
 rw[if_pos (by omega)]
 refine .ret ⟨List.mergeSort_perm _ _,?_⟩
 refine (List.pairwise_mergeSort (le:=fun x y:Int=>decide (x<=y)) (fun a b c h1 h2=>by simp only[decide_eq_true_eq] at *;omega) (fun a b=>by simp only[Bool.or_eq_true,decide_eq_true_eq];omega) l).imp fun {a b} h=>?_
 simp only[decide_eq_true_eq,decide_eq_false_iff_not] at *
 omega
end Go.AX
end
section
namespace Go.AX
def Po {ρ:Type}(m:Option ρ)(Q:ρ->Prop):Prop:=∀r,m=some r->Q r
theorem Po.ret {ρ:Type}{Q:ρ->Prop}{r:ρ}(h:Q r):Po (some r) Q:=fun _ e=>X25 e ▸ h
theorem Po.imp {ρ:Type}{m:Option ρ}{P Q:ρ->Prop}(h:Po m P)(k :∀r,P r->Q r):Po m Q:=fun r e=>k r (h r e)
theorem Po.bind {α ρ:Type}{m:Option α}{f:α->Option ρ}{Q:ρ->Prop}(k :∀a,m=some a->Po (f a) Q):Po (Option.bind m f) Q:=by
 intro r e
 cases hm:m with
 | none=>rw[hm] at e;cases e
 | some a=>rw[hm] at e;exact k a hm r e
theorem Po.join {τ ρ:Type}{m:(τ->Option ρ)->Option ρ}{k:τ->Option ρ}{Q:ρ->Prop}(J:τ->Prop)(h1 :∀k',(∀v,J v->Po (k' v) Q)->Po (m k') Q)(h2 :∀v,J v->Po (k v) Q):Po (AC m k) Q:=h1 k h2
theorem Po.ite {ρ:Type}{p:Prop}[Decidable p]{x y:Option ρ}{Q:ρ->Prop}(h1:p->Po x Q)(h2:¬ p->Po y Q):Po (if p then x else y) Q:=by
 split
 ·exact h1 ‹_›
 exact h2 ‹_›
theorem Po.forX {α σ ρ:Type}{done:σ->Option ρ}{body:(σ->Option ρ)->α->Nat->σ->Option ρ}{Q:ρ->Prop}{l:List α}{s0:σ}(I:Nat->σ->Prop)(h0:I 0 s0)(hd :∀s,I l.length s->Po (done s) Q)
  (hs :∀(next:σ->Option ρ) x i s,l[i]?=some x->I i s->(∀s',I (i+1) s'->Po (next s') Q)->Po (body next x i s) Q):Po (Ak done body l 0 s0) Q:=by
 have key :∀(t:List α) (i:Nat) (s:σ),(∃p,l=p++t/\p.length=i)->I i s->Po (Ak done body t i s) Q:=by
  intro t
  induction t with
  | nil=>intro i s ⟨p,hp,hl⟩ hi;exact hd s (by rw[hp];simpa[hl] using hi)
  | cons x t ih=>
   intro i s ⟨p,hp,hl⟩ hi
   exact hs _ x i s (by rw[hp,<- hl];simp) hi fun s' h'=>ih (i+1) s' ⟨p++[x],by simp[hp],by simp[hl]⟩ h'
 exact key l 0 s0 ⟨[],rfl,rfl⟩ h0
theorem Po.for_ {α σ ρ:Type}{done:σ->Option ρ}{body:(σ->Option ρ)->α->Nat->σ->Option ρ}{Q:ρ->Prop}{l:List α}{s0:σ}(I:σ->Prop)(h0:I s0)(hd :∀s,I s->Po (done s) Q)
  (hs :∀(next:σ->Option ρ) x i s,x∈l->I s->(∀s',I s'->Po (next s') Q)->Po (body next x i s) Q):Po (Ak done body l 0 s0) Q:=
 .forX (fun _=>I) h0 hd fun n x i s hx=>hs n x i s (List.mem_of_getElem? hx)
theorem Po.apnd {α:Type}{b:Nat}{l m:List α}:Po (Go.AX.apnd b l m) fun r=>r=l++m:=by
 intro r e
 unfold Go.AX.apnd at e
 split at e
 ·exact (X25 e).symm
 cases e
theorem Po.geti {α:Type}{l:List α}{i:Int}:Po (Go.AX.geti l i) fun x=>0<=i/\l[i.toNat]?=some x:=by
 intro r e
 unfold Go.AX.geti at e
 split at e
 ·rename_i h
  exact⟨h.1,e⟩
 cases e
theorem Po.seti {α:Type}{l:List α}{i:Int}{x:α}:Po (Go.AX.seti l i x) fun r=>0<=i/\i.toNat<l.length/\r=l.set i.toNat x:=by
 intro r e
 unfold Go.AX.seti at e
 split at e
 ·rename_i h
  exact⟨h.1,by omega,(X25 e).symm⟩
 cases e
theorem Po.part {α:Type}{l:List α}{a b:Int}:Po (Go.AX.part l a b) fun r=>r=(l.drop a.toNat).take (b.toNat-a.toNat):=by
 intro r e
 unfold Go.AX.part at e
 split at e
 ·exact (X25 e).symm
 cases e
theorem Ok.and {ρ:Type}{m:Option ρ}{P Q:ρ->Prop}(h:Ok m P)(k:Po m Q):Ok m fun r=>P r/\Q r:=by
 obtain⟨r,h1,h2⟩:=h
 exact⟨r,h1,h2,k r h1⟩
theorem Po.sel {τ ρ:Type}{m:(τ->Option ρ)->Option ρ}{k:τ->Option ρ}{Q:ρ->Prop}(h1 :∀k',(∀v,Po (k' v) Q)->Po (m k') Q)(h2 :∀v,Po (k v) Q):Po (AC m k) Q:=h1 k h2
end Go.AX
end
section
namespace Go.AX.Q19
open Go Go.AX
def fl (t:Int):Int:=if t=1 then 64 else if t=2 then 64 else if t=3 then 64 else if t=4 then 128 else if t=5 then 64 else if t=8 then 192 else if t=32 then 192 else if t=35 then 192 else 0
def unk (t:Int):Bool:=decide (fl t=0)&&(decide (t≠14)&&decide (t≠15))
theorem Xm (t:Int):(BV Du t).getD 0=fl t:=by
 unfold Du fl
 simp only[BV,beq_iff_eq]
 repeat' (split;· rfl)
 rfl
theorem GK (t:Int):(t=1/\fl t=64)\/(t=2/\fl t=64)\/(t=3/\fl t=64)\/(t=4/\fl t=128)\/(t=5/\fl t=64)\/(t=8/\fl t=192)\/(t=32/\fl t=192)\/(t=35/\fl t=192) \/
  (t≠1/\t≠2/\t≠3/\t≠4/\t≠5/\t≠8/\t≠32/\t≠35/\fl t=0):=by
 unfold fl
 by_cases h1:t=1<;>by_cases h2:t=2<;>by_cases h3:t=3<;>by_cases h4:t=4<;>by_cases h5:t=5<;>by_cases h6:t=8<;>by_cases h7:t=32<;>by_cases h8:t=35<;>first | (exfalso;omega)|simp[h1,h2,h3,h4,h5,h6,h7,h8]
theorem Bl (t:Int):Be t=some (fl t):=by
 unfold Be
 simp only[AB,beq_iff_eq]
 rcases GK t with ⟨h,e⟩|⟨h,e⟩|⟨h,e⟩|⟨h,e⟩|⟨h,e⟩|⟨h,e⟩|⟨h,e⟩|⟨h,e⟩|⟨h1,h2,h3,h4,h5,h6,h7,h8,e⟩<;>rw[e]
 iterate 8 (subst h;rfl)
 simp[h1,h2,h3,h4,h5,h6,h7,h8]
theorem al (t:Int)(k:Bool->Option Bool):(if (fl t==0)=true then if (cond true (t != 14) false)=true then k (cond true (t != 15) false) else k false else k false)=k (unk t):=by
 have e1:(t != 14)=!decide (t=14):=rfl
 have e2:(t != 15)=!decide (t=15):=rfl
 unfold unk
 rw[e1,e2]
 by_cases h1:fl t=0<;>by_cases h2:t=14<;>by_cases h3:t=15<;>simp[h1,h2,h3]
theorem G3 (t:Int):Bf t=some (unk t):=by
 unfold Bf
 rw[AB,Xm,AA]
 exact al t some
theorem FC (t:Int):BY t=some (unk t):=by
 unfold BY
 rw[AB,Bl,AA]
 exact al t some
theorem Yp (a b c:Int):BA a b c=some (decide (b<=a)&&decide (a<=c)):=by
 unfold BA
 rw[AB]
 by_cases h:b<=a
 ·rw[if_pos (by simpa using h),decide_eq_true h];rfl
 rw[if_neg (by simpa using h),decide_eq_false h];rfl
theorem number_eq (a:Int):EC a=some (decide (1<=a)&&decide (a<=4294967295)):=by
 unfold EC
 rw[AB]
 by_cases h:1<=a
 ·rw[if_pos (by simpa using h),decide_eq_true h];rfl
 rw[if_neg (by simpa using h),decide_eq_false h];rfl
def bt (x m:Int):Int:=AD ((BitVec.ofInt 64 x &&& BitVec.ofInt 64 m).toNat:Int)
theorem XK {n m:Int}(h:n%(2^64:Int)=m%(2^64:Int)):AD n=AD m:=
 congrArg (fun q:Int=>if (IntKind.i64.signed&&decide (q ≥ (2^(IntKind.i64.bits-1):Int)))=true then q-(2^IntKind.i64.bits:Int) else q) h
theorem UZ (b:BitVec 64):AD (b.toNat:Int)=b.toInt:=by
 have h:=b.isLt
 have h1:=BitVec.toInt_eq_toNat_cond b
 have p1:(2:Int)^64=18446744073709551616:=by decide
 have p2:((2^64:Nat):Int)=18446744073709551616:=by decide
 have p3:(2:Nat)^64=18446744073709551616:=by decide
 rw[p2] at h1
 rw[p3] at h h1
 have h2:-9223372036854775808<=b.toInt/\b.toInt<=9223372036854775807:=by
  rw[h1];split<;>omega
 rw[XK (m:=b.toInt) (by rw[p1,h1];split<;>omega),AP h2]
theorem R1 (b:BitVec 64):BitVec.ofInt 64 (AD (b.toNat:Int))=b:=by
 rw[UZ,BitVec.ofInt_toInt]
theorem Xd {f m:Int}(hf:f=64\/f=128\/f=192):(AD ((BitVec.ofInt 64 (AD ((BitVec.ofInt 64 m ^^^ BitVec.ofInt 64 f).toNat:Int)) &&& BitVec.ofInt 64 192).toNat:Int)==0)=(bt m 192==f):=by
 unfold bt
 rw[R1,UZ,UZ,X28,beq_iff_eq,beq_iff_eq]
 have h0:(0:Int)=(0#64).toInt:=by decide
 have h1:f=(BitVec.ofInt 64 f &&& BitVec.ofInt 64 192).toInt:=by rcases hf with rfl | rfl | rfl<;>decide
 have hx:(BitVec.ofInt 64 m ^^^ BitVec.ofInt 64 f) &&& BitVec.ofInt 64 192=(BitVec.ofInt 64 m &&& BitVec.ofInt 64 192) ^^^ (BitVec.ofInt 64 f &&& BitVec.ofInt 64 192):=by
  apply BitVec.eq_of_getLsbD_eq
  intro i _
  simp only[BitVec.getLsbD_and,BitVec.getLsbD_xor]
  generalize (BitVec.ofInt 64 m).getLsbD i=x
  generalize (BitVec.ofInt 64 f).getLsbD i=y
  generalize (BitVec.ofInt 64 192).getLsbD i=z
  cases x<;>cases y<;>cases z<;>rfl
 rw[hx]
 conv=>rhs;rhs;rw[h1]
 rw[h0,BitVec.toInt_inj,BitVec.toInt_inj,BitVec.xor_eq_zero_iff]
def Dj (x:JAA):Bool:=bt x.Flags 192==fl x.Type_&&(fl x.Type_==192 || bt x.Flags 32==0)
theorem Br (x:JAA)(h:fl x.Type_≠0):BQ x=some (Dj x):=by
 have hf:fl x.Type_=64\/fl x.Type_=128\/fl x.Type_=192:=by
  rcases GK x.Type_ with ⟨_,e⟩|⟨_,e⟩|⟨_,e⟩|⟨_,e⟩|⟨_,e⟩|⟨_,e⟩|⟨_,e⟩|⟨_,e⟩|h'<;>first | (rw[e];simp;done)|exact absurd h'.2.2.2.2.2.2.2.2 h
 unfold BQ Dj
 rw[AB,Xm]
 simp only[AA,Xd hf]
 show (if (bt x.Flags 192==fl x.Type_)=true then if (fl x.Type_==192)=true then some true else some (cond true (cond false true (bt x.Flags 32==0)) false) else some false)=_
 cases (bt x.Flags 192==fl x.Type_)<;>cases (fl x.Type_==192)<;>rfl
def Db (b:List UInt8):Int:=b.foldl (fun n x=>AD ((BitVec.ofInt 64 (AD (n*(2^(min (Int.toNat 8) 64)))) ||| BitVec.ofInt 64 (x.toNat:Int)).toNat:Int)) 0
theorem Ya {α σ ρ:Type}{K:σ->Option ρ}{g:σ->α->σ} :∀(l:List α) (i:Nat) (s:σ),Ak K (fun next x _ s=>next (g s x)) l i s=K (l.foldl g s)
 | [],_,_=>rfl
 | x::t,i,s=>Ya t (i+1) (g s x)
theorem C4 (b:List UInt8):CC b=some (Db b):=by
 unfold CC
 rw[AB]
 exact Ya (K:=some) b 0 0
theorem BP (b:List UInt8):Az b=some (Db b):=by
 unfold Az
 rw[AB]
 exact Ya (K:=some) b 0 0
def val (l:List UInt8):Nat:=l.foldl (fun m x=>m*256+x.toNat) 0
theorem M8 (l:List UInt8)(x:UInt8):val (l++[x])=val l*256+x.toNat:=by simp[val]
theorem Me :∀l:List UInt8,val l<256^l.length:=by
 intro l
 rw[<- List.reverse_reverse l]
 generalize l.reverse=m
 induction m with
 | nil=>decide
 | cons x t ih=>
  rw[List.reverse_cons,M8,X11,X22,Nat.pow_succ]
  have:=x.toNat_lt
  omega
theorem Ug {u v:Nat}(hu:u<36028797018963968)(hv:v<256):AD ((BitVec.ofInt 64 (AD ((u:Int)*(2^(min (Int.toNat 8) 64)))) ||| BitVec.ofInt 64 (v:Int)).toNat:Int)=((u*256+v:Nat):Int):=by
 have h1:((u:Int)*(2^(min (Int.toNat 8) 64)))=((u*256:Nat):Int):=by
  have:min (Int.toNat 8) 64=8:=rfl
  rw[this];omega
 rw[h1,AP (x:=((u*256:Nat):Int)) (by omega),BitVec.ofInt_natCast,BitVec.ofInt_natCast,BitVec.toNat_or,BitVec.toNat_ofNat,BitVec.toNat_ofNat,Nat.mod_eq_of_lt (show u*256<2^64 by omega),Nat.mod_eq_of_lt (show v<2^64 by omega),
  show u*256=2^8*u by omega,<- Nat.two_pow_add_eq_or_of_lt (show v<2^8 by omega)]
 rw[AP (by omega)]
theorem Gw :∀{l:List UInt8},l.length<=7->Db l=(val l:Int):=by
 intro l
 rw[<- List.reverse_reverse l]
 generalize l.reverse=m
 induction m with
 | nil=>intro _;rfl
 | cons x t ih=>
  intro h
  rw[List.reverse_cons] at h ⊢
  simp only[X11,List.length_reverse,X22] at h
  unfold Db at ih ⊢
  rw[List.foldl_append,ih (by simp;omega)]
  have h1:=Me t.reverse
  have h2:256^t.reverse.length<=256^6:=Nat.pow_le_pow_right (by omega) (by simp;omega)
  show AD _=_
  rw[Ug (by omega) x.toNat_lt,M8]
def nums:List UInt8->List Int
 | a::b::c::d::t=>Db [a,b,c,d]::nums t
 | _=>[]
theorem Fp (a b c d:UInt8)(t:List UInt8):nums (a::b::c::d::t)=Db [a,b,c,d]::nums t:=rfl
theorem Wx :∀{l:List UInt8},l.length<4->nums l=[]
 | [],_=>rfl
 | [_],_=>rfl
 | [_,_],_=>rfl
 | [_,_,_],_=>rfl
 | _::_::_::_::_,h=>by simp at h;omega
theorem GA :∀{l:List UInt8},4<=l.length->∃a b c d t,l=a::b::c::d::t
 | [],h=>by simp at h
 | [_],h=>by simp at h
 | [_,_],h=>by simp at h
 | [_,_,_],h=>by simp at h
 | a::b::c::d::t,_=>⟨a,b,c,d,t,rfl⟩
theorem E4 :∀l:List UInt8,(nums l).length=l.length/4
 | a::b::c::d::t=>by
  rw[Fp,X12,E4 t]
  simp only[X12]
  omega
 | []=>rfl
 | [_]=>by simp[nums]
 | [_,_]=>by simp[nums]
 | [_,_,_]=>by simp[nums]
theorem KI :∀(l:List UInt8),∀n∈nums l,0<=n/\n<=4294967295
 | a::b::c::d::t=>by
  rw[Fp]
  intro n hn
  rcases List.mem_cons.1 hn with h | h
  ·have h1:=Me [a,b,c,d]
   rw[h,Gw (by simp)]
   simp only[X12,X13] at h1
   omega
  exact KI t n h
 | []=>by intro n h;simp[nums] at h
 | [_]=>by intro n h;simp[nums] at h
 | [_,_]=>by intro n h;simp[nums] at h
 | [_,_,_]=>by intro n h;simp[nums] at h
theorem E1 {b:List UInt8}(hb:b.length<=1000000000):Cb b=some (nums b):=by
 unfold Cb
 rw[AB,B9 (fun s:List UInt8×List Int=>s.1.length+4*s.2.length<=1000000000) (fun s=>s.1.length) (fun s=>some (s.2++nums s.1)) ?_ fuel (b,[]) (by simpa using hb) (BS (by simp only;omega))]
 ·rfl
 rintro next ⟨v,o⟩ h hn
 dsimp only at h ⊢
 by_cases h4:4<=v.length
 ·obtain⟨x,y,z,w,t,rfl⟩:=GA h4
  simp only[X12] at h
  rw[if_pos (by simp only[X12,decide_eq_true_eq];omega)]
  have e1:part (x::y::z::w::t) 0 4=some [x,y,z,w]:=by
   rw[show (0:Int)=((0:Nat):Int) by rfl,show (4:Int)=((4:Nat):Int) by rfl,Bj (by omega) (by simp)]
   rfl
  have e2:part (x::y::z::w::t) 4 ((x::y::z::w::t).length:Int)=some t:=by
   rw[show (4:Int)=((4:Nat):Int) by rfl,Bj (by simp) (by simp)]
   simp
  rw[e1,AA,C4,AA,AQ (by decide) (by simp only[X22];omega),AA,e2,AA,hn _ (by simp only[X11,X22];omega) (by simp only[X12];omega)]
  simp[Fp]
 rw[if_neg (by simp only[decide_eq_true_eq];omega),Wx (by omega)]
 simp
def ltI (a b:Int):Bool:=decide (a<b)
theorem QL (a:Int):ltI a a=false:=by simp[ltI]
theorem U7 (a b c:Int)(h1:ltI a b=true)(h2:ltI b c=true):ltI a c=true:=by simp only[ltI,decide_eq_true_eq] at *;omega
theorem YU (a b:Int)(h:ltI a b=false):a=b\/ltI b a=true:=by simp only[ltI,decide_eq_true_eq,decide_eq_false_iff_not] at *;omega
def Asc (l r:List Int):Prop:=r.Pairwise (fun a b=>ltI a b=true)/\∀x,x∈r↔x∈l
theorem Asc.uniq {l r s:List Int}(h:Asc l r)(k:Asc l s):r=s:=
 JR (lt:=fun a b=>ltI a b=true) (fun a=>by simp[QL]) U7 h.1 k.1 fun x=>(h.2 x).trans (k.2 x).symm
theorem JF {l:List Int}(hl:l.length<=1000000):Ok (EQ l) (Asc l):=by
 unfold EQ
 refine .join (Asc l) (fun k hk=>?_) fun r hr=>.ret hr
 refine .forX (fun i v=>v.Pairwise (fun a b=>ltI a b=true)/\(∀x,x∈v↔x∈l.take i)/\v.length<=i) ⟨.nil,by simp,by simp⟩ (fun v hv=>hk v ⟨hv.1,by simpa using hv.2.1⟩) fun next x i v hx hI hn=>?_
 obtain⟨i1,i2,i3⟩:=hI
 have hil:=(X16.1 hx).1
 have hmt :∀y,y∈l.take (i+1)↔y∈l.take i\/y=x:=by
  intro y
  rw[List.take_add_one,hx]
  simp
 refine .join (fun v'=>v'.Pairwise (fun a b=>ltI a b=true)/\(∀x,x∈v'↔x∈l.take (i+1))/\v'.length<=i+1) (fun k6 hk6=>?_) fun v' h=>hn _ h
 have hpos:=GV (ltI · x) v
 rw[cB (p:=(ltI · x)) (fun y k4=>k4 (cond true (decide (y<x)) false)) (by omega) (fun y _ k=>rfl)]
 have hh:=aK U7 QL (x:=x) i1
 obtain⟨t1,t2⟩:=takeWhile_take (ltI · x) v
 refine .join (fun c=>c=true↔x∈v) (fun k15 hk15=>?_) fun c hc=>.ite (fun h=>?_) fun h=>?_
 ·by_cases hk:(v.takeWhile (ltI · x)).length<v.length
  ·rw[if_pos (by simpa using hk),CS hk,AA]
   refine hk15 _ ?_
   rw[hh,X15 hk]
   simp only[cond_true,beq_iff_eq,X24]
  rw[if_neg (by simpa using hk)]
  refine hk15 _ ?_
  rw[hh,List.getElem?_eq_none (by omega)]
  simp
 ·refine hk6 _ ⟨i1,fun y=>?_,by omega⟩
  rw[hmt,i2 y]
  refine⟨.inl,fun q=>q.elim id fun e=>?_⟩
  rw[e];exact (i2 x).1 (hc.1 h)
 have hnx:x∉v:=fun q=>h (hc.2 q)
 simp only[Int.toNat_natCast,Int.toNat_zero,List.drop_zero,Nat.sub_zero]
 refine .bind (Ok.chk (by omega)) fun _ _=>.bind (Ok.apnd (by decide) (by simp;omega)) fun _ _=>.bind (Ok.apnd (by decide) (by simp;omega)) fun a ha=>.bind (Ok.chk (by omega)) fun _ _=>.bind (Ok.apnd (by decide) (by rw[ha];simp;omega)) fun b hb=>hk6 _ ?_
 have e:b=H3 ltI v x:=by
  have e2:(List.drop (v.takeWhile (ltI · x)).length v).take (v.length-(v.takeWhile (ltI · x)).length)=v.dropWhile (ltI · x):=by
   rw[List.take_of_length_le (by simp),t2]
  rw[hb,ha,e2,t1]
  unfold H3
  simp
 rw[e]
 refine⟨IG U7 YU i1 hnx,fun y=>?_,by rw[Is];omega⟩
 rw[It,hmt,i2]
def srt (l:List Int):List Int:=(EQ l).getD []
theorem dh {l:List Int}(hl:l.length<=1000000):EQ l=some (srt l):=by
 obtain⟨r,h,_⟩:=JF hl
 unfold srt;rw[h];rfl
theorem X6 {l:List Int}(hl:l.length<=1000000):Asc l (srt l):=by
 obtain⟨r,h,k⟩:=JF hl
 unfold srt;rw[h];exact k
theorem Vl (l:List Int):Bz l=KU (fun a b=>a==b) 0 l:=rfl
theorem Ry {l:List Int}{ρ:Type}{K:List Int->Option ρ}(hl:l.length<=1000000):(Option.bind (Lx l) fun v=>Option.bind (Bz v) K)=K (srt l):=by
 obtain⟨r,h,h1,h2⟩:=Y8 (l:=l) (by omega)
 rw[h,AA,Vl]
 obtain⟨c,g,g1,g2⟩:=KA (lt:=ltI) (e:=fun a b:Int=>a==b) (zz:=0) QL U7 YU (fun a b=>beq_iff_eq) (l:=r) h2 (by rw[h1.length_eq];omega)
 rw[g,AA,Asc.uniq (l:=l) ⟨g1,fun x=>(g2 x).trans h1.mem_iff⟩ (X6 hl)]
def Hv (p:List JAD)(set:Bool)(l:List Int):List JAD:=
 if set then p++[⟨true,srt l⟩] else match p.getLast? with
  | some s=>if s.Set then p++[⟨false,l⟩] else p.dropLast++[⟨false,s.ASNs++l⟩]
  | none=>[⟨false,l⟩]
def Ks:Nat->List UInt8->List JAD->Option (List JAD)
 | _,[],p=>some p
 | n+1,k::c::t,p=>if (k.toNat≠1/\k.toNat≠2)\/c.toNat=0\/t.length<4*c.toNat then none else Ks n (t.drop (4*c.toNat)) (Hv p (k.toNat==1) (nums (t.take (4*c.toNat))))
 | _,_,_=>none
theorem O4 (n:Nat)(p:List JAD):Ks n [] p=some p:=by cases n<;>rfl
theorem Rt :∀(n m:Nat) (b:List UInt8) (p:List JAD),b.length<=n->b.length<=m->Ks n b p=Ks m b p
 | n,m,[],p,_,_=>by rw[O4,O4]
 | n+1,m+1,[x],p,_,_=>rfl
 | n+1,m+1,k::c::t,p,h1,h2=>by
  simp only[X12] at h1 h2
  simp only[Ks]
  split
  ·rfl
  exact Rt n m _ _ (by simp only[X17];omega) (by simp only[X17];omega)
 | 0,_,_::_,_,h,_=>by simp at h
 | _,0,_::_,_,_,h=>by simp at h
def rdL (b:List UInt8)(p:List JAD):Option (List JAD):=Ks b.length b p
def IY (k c:UInt8)(t:List UInt8):Bool:=decide ((k.toNat≠1/\k.toNat≠2)\/c.toNat=0\/t.length<4*c.toNat)
theorem cU (p:List JAD):rdL [] p=some p:=rfl
theorem Va (k c:UInt8)(t:List UInt8)(p:List JAD):rdL (k::c::t) p=if IY k c t=true then none else rdL (t.drop (4*c.toNat)) (Hv p (k.toNat==1) (nums (t.take (4*c.toNat)))):=by
 unfold rdL IY
 simp only[X12,Ks,decide_eq_true_eq]
 split
 ·rfl
 exact Rt _ _ _ _ (by simp only[X17];omega) (by simp only[X17];omega)
theorem Ta :∀(j:Nat) (t:List UInt8),4*(j+1)<=t.length->nums (t.take (4*(j+1)))=nums (t.take (4*j))++[Db ((t.drop (4*j)).take 4)]
 | 0,t,h=>by
  obtain⟨a,b,c,d,t,rfl⟩:=GA (l:=t) (by omega)
  rfl
 | j+1,t,h=>by
  obtain⟨a,b,c,d,t,rfl⟩:=GA (l:=t) (by omega)
  simp only[X12] at h
  have e1:4*(j+1+1)=4*(j+1)+1+1+1+1:=by omega
  have e2:4*(j+1)=4*j+1+1+1+1:=by omega
  have ih:=Ta j t (by omega)
  rw[e1]
  simp only[List.take_succ_cons,Fp]
  rw[ih,e2]
  simp only[List.take_succ_cons,List.drop_succ_cons,Fp,List.cons_append]
def Lk (p:List JAD)(i:Nat)(l:List Int):Prop:=p=[] \/∃q s,p=q++[⟨s,l⟩]/\i=q.length
theorem GH {x:UInt8}{t:List UInt8}:geti (x::t) 0=some x:=CS (l:=x::t) (i:=0) (by simp)
theorem H9 {x y:UInt8}{t:List UInt8}:geti (x::y::t) 1=some y:=CS (l:=x::y::t) (i:=1) (by simp)
theorem bi (c:UInt8):AD (2+AD (4*(c.toNat:Int)))=((2+4*c.toNat:Nat):Int):=by
 have:=c.toNat_lt
 rw[AP (x:=4*(c.toNat:Int)) (by omega),AP (by omega)]
 omega
theorem MC (p:List JAD)(l:List Int):Hv p true l=p++[⟨true,srt l⟩]:=rfl
theorem MH (l:List Int):Hv [] false l=[⟨false,l⟩]:=rfl
theorem HF (q:List JAD)(m l:List Int):Hv (q++[⟨true,m⟩]) false l=q++[⟨true,m⟩]++[⟨false,l⟩]:=by
 unfold Hv;simp
theorem Kq (q:List JAD)(m l:List Int):Hv (q++[⟨false,m⟩]) false l=q++[⟨false,m++l⟩]:=by
 unfold Hv;simp
theorem U8 {l:List Int}(hl:l.length<=1000000):(srt l).length<=l.length:=by
 obtain⟨h1,h2⟩:=X6 hl
 refine Sv (h1.imp fun {a b} h e=>?_) fun x hx=>(h2 x).1 hx
 subst e
 rw[QL] at h;simp at h
theorem Us {α:Type}{q:List α}{x:α}(h:q.length<=1000000000):AD (((q++[x]).length:Int)-1)=(q.length:Int):=by
 rw[AP (by simp;omega)]
 simp
theorem Xw {α:Type}(q:List α)(x y:α):seti (q++[x]) (q.length:Int) y=some (q++[y]):=by
 unfold seti
 rw[if_pos (by simp;omega)]
 simp
theorem bq {k c:UInt8}{t:List UInt8}(hlen:t.length<=1000000){ρ:Type}(K:Bool->Option ρ) :
  AC (τ:=Bool) (fun q=>if (decide (((k::c::t).length:Int)<2))=true then q true else
   Option.bind (geti (k::c::t) 0) fun v9=>
   if ((v9.toNat:Int) != 1)=true then
    Option.bind (geti (k::c::t) 0) fun v10=>
    if (cond false true (cond true ((v10.toNat:Int) != 2) false))=true then q true else
     Option.bind (geti (k::c::t) 1) fun v11=>
     if (cond false true ((v11.toNat:Int)==0))=true then q true else
      Option.bind (geti (k::c::t) 1) fun v12=>
      q (cond false true (decide (((k::c::t).length:Int)<(AD (2+(AD (4*(v12.toNat:Int))))))))
   else
    Option.bind (geti (k::c::t) 1) fun v13=>
    if (cond false true ((v13.toNat:Int)==0))=true then q true else
     Option.bind (geti (k::c::t) 1) fun v14=>
     q (cond false true (decide (((k::c::t).length:Int)<(AD (2+(AD (4*(v14.toNat:Int))))))))) K=K (IY k c t):=by
 rw[AB,if_neg (by simp;omega)]
 simp only[GH,H9,AA,bi,cond_true,cond_false]
 unfold IY
 have e :∀b:Bool,(bif false then true else b)=b:=fun b=>by cases b<;>rfl
 have e1:((k.toNat:Int) != 1)=decide (k.toNat≠1):=by rw[X28];simp;omega
 have e2:((k.toNat:Int) != 2)=decide (k.toNat≠2):=by rw[X28];simp;omega
 have e3:((c.toNat:Int)==0)=decide (c.toNat=0):=by rw[X28];simp
 have e4:decide (((k::c::t).length:Int)<((2+4*c.toNat:Nat):Int))=decide (t.length<4*c.toNat):=by rw[X28];simp only[X12,decide_eq_true_eq];omega
 rw[e1,e2,e3,e4]
 by_cases h1:k.toNat=1<;>by_cases h2:k.toNat=2<;>by_cases h3:c.toNat=0<;>by_cases h4:t.length < 4*c.toNat<;>first | (exfalso;omega)|simp[h1,h2,h3,h4]
theorem Zj {k c:UInt8}{t:List UInt8}(hlen:t.length<=1000000){ρ:Type}(K:Bool->Option ρ) :
  AC (τ:=Bool) (fun q=>if (decide (((k::c::t).length:Int)<2))=true then q true else
   Option.bind (geti (k::c::t) 0) fun v37=>
   if ((v37.toNat:Int) != 1)=true then
    Option.bind (geti (k::c::t) 0) fun v38=>
    if (cond false true (cond true ((v38.toNat:Int) != 2) false))=true then q true else
     Option.bind (geti (k::c::t) 1) fun v39=>
     if (cond false true (decide (((k::c::t).length:Int)<(AD (2+(AD (4*(v39.toNat:Int))))))))=true then q true else
      Option.bind (geti (k::c::t) 1) fun v40=>
      q (cond false true ((v40.toNat:Int)==0))
   else
    Option.bind (geti (k::c::t) 1) fun v41=>
    if (cond false true (decide (((k::c::t).length:Int)<(AD (2+(AD (4*(v41.toNat:Int))))))))=true then q true else
     Option.bind (geti (k::c::t) 1) fun v42=>
     q (cond false true ((v42.toNat:Int)==0))) K=K (IY k c t):=by
 rw[AB,if_neg (by simp;omega)]
 simp only[GH,H9,AA,bi,cond_true,cond_false]
 unfold IY
 have e1:((k.toNat:Int) != 1)=decide (k.toNat≠1):=by rw[X28];simp;omega
 have e2:((k.toNat:Int) != 2)=decide (k.toNat≠2):=by rw[X28];simp;omega
 have e3:((c.toNat:Int)==0)=decide (c.toNat=0):=by rw[X28];simp
 have e4:decide (((k::c::t).length:Int)<((2+4*c.toNat:Nat):Int))=decide (t.length<4*c.toNat):=by rw[X28];simp only[X12,decide_eq_true_eq];omega
 rw[e1,e2,e3,e4]
 by_cases h1:k.toNat=1<;>by_cases h2:k.toNat=2<;>by_cases h3:c.toNat=0<;>by_cases h4:t.length < 4*c.toNat<;>first | (exfalso;omega)|simp[h1,h2,h3,h4]
theorem YA {p:List JAD}(hp:p.length<=1000000){ρ:Type}(K:Bool->Option ρ) :
  AC (τ:=Bool) (fun q=>if (decide ((p.length:Int) > 0))=true then Option.bind (geti p (AD ((p.length:Int)-1))) fun v=>q (cond true (!v.Set) false) else q false) K=K (match p.getLast? with | some s=>!s.Set | none=>false):=by
 rcases List.eq_nil_or_concat p with rfl | ⟨q,s,rfl⟩
 ·rfl
 rw[List.concat_eq_append] at hp ⊢
 rw[AB,if_pos (by simp),Us (by simp at hp;omega),LQ,AA]
 simp
theorem Y6 {t:List UInt8}{c k:UInt8}{ρ:Type}{K:List Int->Option ρ}(h:4*c.toNat<=t.length)(ht:t.length<=1000000) :
  AC (τ:=List Int) (fun q=>Ao (fun (next18:Int×List Int->Option ρ) (x:Int×List Int)=>match x with
   | (v19,v20)=>if (decide (v19<(c.toNat:Int)))=true then
         Option.bind (part (k::c::t) (AD (2+(AD (4*v19)))) (AD (6+(AD (4*v19))))) fun v21=>
         Option.bind (Az v21) fun v22=>
         Option.bind (apnd (α:=Int) 8 v20 ([v22]:List Int)) fun v23=>
         next18 ((AD (v19+1)),v23)
        else q v20) fuel (0,[])) K=K (nums (t.take (4*c.toNat))):=by
 have hc:=c.toNat_lt
 rw[AB]
 refine (B9 (fun s:Int×List Int=>∃j:Nat,s.1=j/\j<=c.toNat/\s.2=nums (t.take (4*j))) (fun s=>(c.toNat-s.1).toNat) (fun _=>K (nums (t.take (4*c.toNat)))) ?_ fuel (0,[]) ⟨0,rfl,Nat.zero_le _,rfl⟩ (BS (by simp only;omega))).trans rfl
 rintro next ⟨v,l⟩ ⟨j,h1,h2,h3⟩ hn
 dsimp only at h1 h2 h3
 subst h1 h3
 by_cases hj:j<c.toNat
 ·show (if _ then _ else _)=_
  rw[if_pos (by simpa using hj)]
  have e1:AD (2+AD (4*(j:Int)))=((2+4*j:Nat):Int):=by rw[AP (x:=4*(j:Int)) (by omega),AP (by omega)];omega
  have e2:AD (6+AD (4*(j:Int)))=((6+4*j:Nat):Int):=by rw[AP (x:=4*(j:Int)) (by omega),AP (by omega)];omega
  have e3:((k::c::t).drop (2+4*j)).take (6+4*j-(2+4*j))=(t.drop (4*j)).take 4:=by
   rw[show 2+4*j=4*j+1+1 by omega,List.drop_succ_cons,List.drop_succ_cons]
   congr 1
   omega
  rw[e1,e2,Bj (by omega) (by simp;omega),AA,e3,BP,AA,AQ (by decide) (by rw[E4];simp;omega),AA,<- Ta j t (by omega),AP (by omega)]
  exact hn _ ⟨j+1,by simp,by omega,rfl⟩ (by simp only;omega)
 have:j=c.toNat:=by omega
 subst this
 show (if _ then _ else _)=_
 rw[if_neg (by simp)]
theorem Sl {k c:UInt8}{t:List UInt8}(h:4*c.toNat<=t.length):part (k::c::t) ((2+4*c.toNat:Nat):Int) ((k::c::t).length:Int)=some (t.drop (4*c.toNat)):=by
 rw[Bj (by simp;omega) (Nat.le_refl _)]
 rw[show 2+4*c.toNat=4*c.toNat+1+1 by omega,List.drop_succ_cons,List.drop_succ_cons,List.take_of_length_le (by simp)]
theorem SK {d:List UInt8}(hd:d.length<=1000000):Gj d=match rdL d [] with | none=>some ([],false)|some p=>Option.bind (DZ p) fun v=>some (p,v):=by
 unfold Gj
 rw[AB]
 refine (B9 (fun s:List UInt8×List JAD×Nat×List Int=>Lk s.2.1 s.2.2.1 s.2.2.2/\s.1.length+s.2.1.length<=1000000/\s.1.length+s.2.2.2.length<=1000000) (fun s=>s.1.length)
  (fun s=>match rdL s.1 s.2.1 with | none=>some ([],false)|some p=>Option.bind (DZ p) fun v=>some (p,v)) ?_ fuel (d,[],0,[]) ⟨.inl rfl,by simpa using hd,by simpa using hd⟩ (BS (by simp only;omega))).trans rfl
 rintro next ⟨b,p,i,l⟩ ⟨h1,h2,h3⟩ hn
 dsimp only at h1 h2 h3 ⊢
 match b,h2,h3,hn with
 | [],_,_,_=>rfl
 | [x],_,_,_=>rfl
 | k::c::t,h2,h3,hn=>
  simp only[X12] at h2 h3
  rw[if_pos (by simp;omega),Va,AB,bq (by omega)]
  by_cases hb:IY k c t=true
  ·rw[if_pos hb,if_pos hb]
  rw[if_neg hb,if_neg hb]
  have hb':(k.toNat=1\/k.toNat=2)/\1<=c.toNat/\4*c.toNat<=t.length:=by
   simp only[IY,decide_eq_true_eq] at hb
   omega
  obtain⟨b1,b2,b3⟩:=hb'
  have hc:=c.toNat_lt
  rw[H9,AA,Y6 b3 (by omega),GH,AA]
  have hnl:(nums (t.take (4*c.toNat))).length=c.toNat:=by rw[E4,X18];omega
  generalize hm:nums (t.take (4*c.toNat))=m at *
  have hdl:(t.drop (4*c.toNat)).length=t.length-4*c.toNat:=X17
  have hrest :∀v41 v42 v43,(Option.bind (some c) fun v44=>Option.bind (part (k::c::t) (AD (2+(AD (4*(v44.toNat:Int))))) ((k::c::t).length:Int)) fun v45=>next (v45,v41,v42,v43))=next (t.drop (4*c.toNat),v41,v42,v43):=by
   intro v41 v42 v43
   rw[AA,bi,Sl b3,AA]
  rw[AB]
  rcases b1 with b1 | b1
  ·rw[if_pos (by rw[b1];rfl),dh (by omega),AA,AQ (by decide) (by simp;omega),AA]
   have e:(k.toNat==1)=true:=by rw[b1];rfl
   rw[e,MC]
   have:=U8 (l:=m) (by omega)
   exact (hrest _ _ _).trans (hn (_,p++[⟨true,srt m⟩],_,srt m) ⟨.inr ⟨_,_,rfl,by simp⟩,by simp only[X11,X22,hdl];omega,by simp only[hdl];omega⟩ (by simp only[hdl,X12];omega))
  have e:(k.toNat==1)=false:=by rw[b1];rfl
  rw[if_neg (by rw[b1];decide),YA (by omega),AB,e]
  rcases h1 with rfl | ⟨q,s,rfl,rfl⟩
  ·rw[if_neg (by simp),AQ (by decide) (by simp),AA,MH]
   exact (hrest _ _ _).trans (hn _ ⟨.inr ⟨[],false,rfl,rfl⟩,by simp only[X11,X22,X13,hdl];omega,by simp only[hdl];omega⟩ (by simp only[hdl,X12];omega))
  simp only[X11,X22] at h2
  cases s
  ·rw[if_pos (by simp),Us (by omega),LQ,AA]
   rw[Int.toNat_natCast]
   have ck:chk (q.length=q.length)=some ():=by unfold chk;rw[if_pos rfl]
   rw[ck,AA,AQ (by decide) (by omega),AA,AA,Xw,AA,Kq]
   exact (hrest _ _ _).trans (hn (_,q++[⟨false,l++m⟩],_,l++m) ⟨.inr ⟨q,false,rfl,rfl⟩,by simp only[X11,X22,hdl];omega,by simp only[hdl,X11];omega⟩ (by simp only[hdl,X12];omega))
  rw[if_neg (by simp),AQ (by decide) (by simp;omega),AA,HF]
  exact (hrest _ _ _).trans (hn (_,q++[⟨true,l⟩]++[⟨false,m⟩],_,m) ⟨.inr ⟨q++[⟨true,l⟩],false,rfl,by simp⟩,by simp only[X11,X22,hdl];omega,by simp only[hdl];omega⟩ (by simp only[hdl,X12];omega))
end Go.AX.Q19
end
section
namespace Go.AX
section
variable {α ρ:Type}
def chainB (lt:α->α->Bool):List α->Bool
 | x::y::t=>lt x y&&chainB lt (y::t)
 | _=>true
theorem LF (lt:α->α->Bool)(x y:α)(t:List α):chainB lt (x::y::t)=(lt x y&&chainB lt (y::t)):=rfl
theorem QQ (lt:α->α->Bool)(x:α):chainB lt [x]=true:=rfl
theorem I0 {lt:α->α->Bool}(htr :∀a b c,lt a b=true->lt b c=true->lt a c=true) :∀{l:List α},chainB lt l=true↔l.Pairwise fun a b=>lt a b=true
 | []=>by simp[chainB]
 | [x]=>by simp[chainB]
 | x::y::t=>by
  rw[LF,X27,I0 htr (l:=y::t),List.pairwise_cons (a:=x)]
  constructor
  ·rintro⟨h1,h2⟩
   refine⟨fun z hz=>?_,h2⟩
   rcases List.mem_cons.1 hz with e | hz
   ·rw[e];exact h1
   exact htr _ _ _ h1 ((List.pairwise_cons.1 h2).1 z hz)
  rintro⟨h1,h2⟩
  exact⟨h1 y (by simp),h2⟩
theorem dQ {ok:α->Bool}{lt:α->α->Bool}{l:List α}{K:Unit->Option ρ}{F:Option ρ}{body:(Unit->Option ρ)->α->Nat->Unit->Option ρ}(hl:l.length<=4611686018427387904)
  (h0 :∀next x,x∈l->body next x 0 ()=if ok x then next () else F)
  (h1 :∀next x y i,x∈l->y∈l->geti l (AD (((i+1:Nat):Int)-1))=some y->body next x (i+1) ()=if ok x&&lt y x then next () else F) :
  Ak K body l 0 ()=if l.all ok&&chainB lt l then K () else F:=by
 have key :∀(t p:List α) (y:α),l=p++y::t->Ak K body t (p.length+1) ()=if t.all ok&&chainB lt (y::t) then K () else F:=by
  intro t
  induction t with
  | nil=>intro p y _;rw[QQ];rfl
  | cons x t ih=>
   intro p y e
   show body (fun s=>Ak K body t (p.length+1+1) s) x (p.length+1) ()=_
   have hlen:p.length<l.length:=by rw[e];simp
   rw[h1 _ x y p.length (by rw[e];simp) (by rw[e];simp) (by
    rw[AP (by omega),show ((p.length+1:Nat):Int)-1=(p.length:Int) by omega,e]
    exact LQ p y (x::t))]
   have:=ih (p++[y]) x (by rw[e];simp)
   rw[X11,X22] at this
   rw[this,LF,List.all_cons]
   generalize chainB lt (x::t)=c1
   generalize t.all ok=c2
   cases ok x<;>cases lt y x<;>cases c1<;>cases c2<;>rfl
 match l,h0,h1,key with
 | [],_,_,_=>rfl
 | x::t,h0,_,key=>
  show body (fun s=>Ak K body t (0+1) s) x 0 ()=_
  rw[h0 _ x (by simp)]
  have:=key t [] x rfl
  rw[X13] at this
  rw[this,List.all_cons]
  generalize chainB lt (x::t)=c1
  generalize t.all ok=c2
  cases ok x<;>cases c1<;>cases c2<;>rfl
theorem fK {σ:Type}{g:σ->α->σ}{ok:α->Bool}{lt:α->α->Bool}{l:List α}{s0:σ}{K:σ->Option ρ}{F:Option ρ}{body:(σ->Option ρ)->α->Nat->σ->Option ρ}(hl:l.length<=4611686018427387904)
  (h0 :∀next x s,x∈l->body next x 0 s=if ok x then next (g s x) else F)
  (h1 :∀next x y i s,x∈l->y∈l->geti l (AD (((i+1:Nat):Int)-1))=some y->body next x (i+1) s=if ok x&&lt y x then next (g s x) else F) :
  Ak K body l 0 s0=if l.all ok&&chainB lt l then K (l.foldl g s0) else F:=by
 have key :∀(t p:List α) (y:α) (s:σ),l=p++y::t->Ak K body t (p.length+1) s=if t.all ok&&chainB lt (y::t) then K (t.foldl g s) else F:=by
  intro t
  induction t with
  | nil=>intro p y s _;rw[QQ];rfl
  | cons x t ih=>
   intro p y s e
   show body (fun s=>Ak K body t (p.length+1+1) s) x (p.length+1) s=_
   have hlen:p.length<l.length:=by rw[e];simp
   rw[h1 _ x y p.length s (by rw[e];simp) (by rw[e];simp) (by
    rw[AP (by omega),show ((p.length+1:Nat):Int)-1=(p.length:Int) by omega,e]
    exact LQ p y (x::t))]
   have:=ih (p++[y]) x (g s x) (by rw[e];simp)
   rw[X11,X22] at this
   rw[this,LF,List.all_cons,List.foldl_cons]
   generalize chainB lt (x::t)=c1
   generalize t.all ok=c2
   cases ok x<;>cases lt y x<;>cases c1<;>cases c2<;>rfl
 match l,h0,h1,key with
 | [],_,_,_=>rfl
 | x::t,h0,_,key=>
  show body (fun s=>Ak K body t (0+1) s) x 0 s0=_
  rw[h0 _ x s0 (by simp)]
  have:=key t [] x (g s0 x) rfl
  rw[X13] at this
  rw[this,List.all_cons,List.foldl_cons]
  generalize chainB lt (x::t)=c1
  generalize t.all ok=c2
  cases ok x<;>cases c1<;>cases c2<;>rfl
theorem W3 {β:Type}{g:β->List α}{N:Nat}{body:(List α->Option ρ)->β->Nat->List α->Option ρ}{K:List α->Option ρ} :∀{l:List β} {i:Nat} {v:List α},v.length+(l.flatMap g).length<=N->
  (∀next x i v,x∈l->v.length+(g x).length<=N->body next x i v=next (v++g x))->Ak K body l i v=K (v++l.flatMap g)
 | [],i,v,_,_=>by rw[List.flatMap_nil,List.append_nil];rfl
 | x::t,i,v,h,hb=>by
  rw[List.flatMap_cons,X11] at h
  show body (fun s=>Ak K body t (i+1) s) x i v=_
  rw[hb _ x i v (by simp) (by omega),W3 (l:=t) (by rw[X11];omega) fun next y j w hy hw=>hb next y j w (X19 _ hy) hw,List.flatMap_cons,List.append_assoc]
def canon (e lt:α->α->Bool)(l:List α):List α:=l.foldl (fun acc x=>if acc.any (fun y=>e y x) then acc else H3 lt acc x) []
theorem MK (e lt:α->α->Bool)(l:List α)(x:α):canon e lt (l++[x])=if (canon e lt l).any (fun y=>e y x) then canon e lt l else H3 lt (canon e lt l) x:=by
 unfold canon
 rw[List.foldl_append]
 rfl
theorem L9 {e lt:α->α->Bool}(he :∀a b,e a b=true↔a=b)(htr :∀a b c,lt a b=true->lt b c=true->lt a c=true)(htot :∀a b,lt a b=false->a=b\/lt b a=true)(l:List α) :
  (canon e lt l).Pairwise (fun a b=>lt a b=true)/\(∀x,x∈canon e lt l↔x∈l)/\(canon e lt l).length<=l.length:=by
 rw[<- List.reverse_reverse l]
 generalize l.reverse=m
 induction m with
 | nil=>exact⟨.nil,by simp[canon],by simp[canon]⟩
 | cons x t ih=>
  obtain⟨h1,h2,h3⟩:=ih
  rw[List.reverse_cons,MK]
  by_cases hx:(canon e lt t.reverse).any (fun y=>e y x)=true
  ·rw[if_pos hx]
   obtain⟨y,hy,hyx⟩:=List.any_eq_true.1 hx
   have:=(he _ _).1 hyx
   subst this
   refine⟨h1,fun z=>?_,by simp only[X11];omega⟩
   rw[X23,h2 z,X14]
   refine⟨.inl,fun q=>q.elim id fun e=>?_⟩
   rw[e];exact (h2 _).1 hy
  rw[if_neg hx]
  have hx:x∉canon e lt t.reverse:=fun q=>hx (List.any_eq_true.2 ⟨x,q,(he _ _).2 rfl⟩)
  refine⟨IG htr htot h1 hx,fun z=>?_,by rw[Is];simp only[X11,X22];omega⟩
  rw[It,X23,h2 z,X14]
theorem Qm {e lt:α->α->Bool}(he :∀a b,e a b=true↔a=b)(hirr :∀a,lt a a=false)(htr :∀a b c,lt a b=true->lt b c=true->lt a c=true)(htot :∀a b,lt a b=false->a=b\/lt b a=true)
  {l r:List α} (h1:r.Pairwise fun a b=>lt a b=true) (h2 :∀x,x∈r↔x∈l):r=canon e lt l:=by
 obtain⟨g1,g2,_⟩:=L9 he htr htot l
 exact JR (lt:=fun a b=>lt a b=true) (fun a h=>by rw[hirr] at h;simp at h) htr h1 g1 fun x=>(h2 x).trans (g2 x).symm
end
end Go.AX
end
section
namespace Go.AX.Q19
open Go Go.AX
theorem LU (a b:Int):cmp_Compare_int a b=some (ax a b):=by
 unfold cmp_Compare_int cmp_isNaN_int ax
 simp only[AA,bne_self_eq_false,Bool.false_eq_true,if_false,decide_eq_true_eq,gt_iff_lt]
 split<;>(try split)<;>rfl
theorem bC (l:List Int):Et l=some (orI l):=by
 unfold Et
 rw[AB]
 have key :∀(l:List Int) (i:Nat),Ak (σ:=Unit) (fun _=>some (0:Int)) (fun next x _ _=>if (x != 0)=true then some x else next ()) l i ()=some (orI l):=by
  intro l
  induction l with
  | nil=>intro i;rfl
  | cons x t ih=>
   intro i
   show (if (x != 0)=true then some x else Ak _ _ t (i+1) ())=_
   rw[ih]
   rw[Wj]
   by_cases h:x=0<;>simp[h]
 exact key l 0
def Rw (c:JAB):List Int:=[c.A,c.B]
def Q2 (c:JAF):List Int:=[c.A,c.B,c.C]
theorem Qw (a b:JAB):(Rw a).length=(Rw b).length:=rfl
theorem RF (a b:JAF):(Q2 a).length=(Q2 b).length:=rfl
theorem Zq {a b:JAB}(h:Rw a=Rw b):a=b:=by
 simp only[Rw,List.cons.injEq,and_true] at h
 cases a;cases b;simp_all
theorem Zg {a b:JAF}(h:Q2 a=Q2 b):a=b:=by
 simp only[Q2,List.cons.injEq,and_true] at h
 cases a;cases b;simp_all
def JU:JAB->JAB->Bool:=ltK Rw
def JX:JAF->JAF->Bool:=ltK Q2
theorem WZ (a:JAB):JU a a=false:=N2 a
theorem Wh (a:JAF):JX a a=false:=N2 a
theorem NK (a b c:JAB)(h1:JU a b=true)(h2:JU b c=true):JU a c=true:=PD Qw a b c h1 h2
theorem Ns (a b c:JAF)(h1:JX a b=true)(h2:JX b c=true):JX a c=true:=PD RF a b c h1 h2
theorem M3 (a b:JAB)(h:JU a b=false):a=b\/JU b a=true:=(NP Qw a b h).imp_left Zq
theorem NT (a b:JAF)(h:JX a b=false):a=b\/JX b a=true:=(NP RF a b h).imp_left Zg
theorem Zn (a b:JAB):JAB.eqd a b=true↔a=b:=by
 unfold JAB.eqd
 simp only[X27,Bool.and_true,beq_iff_eq]
 constructor
 ·rintro⟨h1,h2⟩;cases a;cases b;simp_all
 rintro rfl;exact⟨rfl,rfl⟩
theorem Zs (a b:JAF):JAF.eqd a b=true↔a=b:=by
 unfold JAF.eqd
 simp only[X27,Bool.and_true,beq_iff_eq]
 constructor
 ·rintro⟨h1,h2,h3⟩;cases a;cases b;simp_all
 rintro rfl;exact⟨rfl,rfl,rfl⟩
theorem Vk (a b:JAB):D7 a b=some (Fb (Rw a) (Rw b)):=by
 unfold D7
 rw[LU,AA,LU,AA,bC,AA,Np,Np]
 rfl
theorem VI (a b:JAF):CZ a b=some (Fb (Q2 a) (Q2 b)):=by
 unfold CZ
 rw[LU,AA,LU,AA,LU,AA,bC,AA,Np,Np,Np]
 rfl
theorem ZL (a b:JAB):Bg a b=some (Fb (Rw a) (Rw b)):=Vk a b
theorem ZE (a b:JAF):Ci a b=some (Fb (Q2 a) (Q2 b)):=VI a b
theorem Vo (a b:JAB):EP a b=some (JU a b):=by
 unfold EP JU ltK Rw
 rw[AB]
 simp only[Fb,decide_eq_true_eq,beq_iff_eq,cond_true,cond_false]
 by_cases a1:a.A < b.A<;>by_cases a2:a.A=b.A<;>by_cases a3:b.A < a.A<;>by_cases b1:a.B < b.B<;>by_cases b3:b.B < a.B<;>first | (exfalso;omega)|simp[a1,a2,a3,b1,b3]
theorem We (a b:JAF):CL a b=some (JX a b):=by
 unfold CL JX ltK Q2
 simp only[AB]
 simp only[Fb,decide_eq_true_eq,beq_iff_eq,cond_true,cond_false]
 by_cases a1:a.A < b.A<;>by_cases a2:a.A=b.A<;>by_cases a3:b.A < a.A<;>by_cases b1:a.B < b.B<;>by_cases b2:a.B=b.B<;>by_cases b3:b.B < a.B<;>by_cases c1:a.C < b.C<;>by_cases c3:b.C < a.C<;>first | (exfalso;omega)|simp[a1,a2,a3,b1,b2,b3,c1,c3]
def inR (m x:Int):Bool:=decide (0<=x)&&decide (x<=m)
def okC (c:JAB):Bool:=inR 65535 c.A&&inR 65535 c.B
def okL (c:JAF):Bool:=inR 4294967295 c.A&&(inR 4294967295 c.B&&inR 4294967295 c.C)
theorem Sr (c:JAB):EN c=some (okC c):=by
 unfold EN okC inR
 rw[AB]
 simp only[decide_eq_true_eq,cond_true,ge_iff_le]
 by_cases a1:0<=c.A<;>by_cases a2:c.A<=65535<;>by_cases a3:0<=c.B<;>by_cases a4:c.B<=65535<;>simp[a1,a2,a3,a4]
theorem Tc (c:JAF):CU c=some (okL c):=by
 unfold CU okL inR
 rw[AB]
 simp only[decide_eq_true_eq,cond_true,ge_iff_le]
 by_cases a1:0<=c.A<;>by_cases a2:c.A<=4294967295<;>by_cases a3:0<=c.B<;>by_cases a4:c.B<=4294967295<;>by_cases a5:0<=c.C<;>by_cases a6:c.C<=4294967295<;>simp[a1,a2,a3,a4,a5,a6]
theorem mmR {g:Int->Int->Int}{x:Int}{t:List Int}(hl:t.length<=1000000000) :
  AC (τ:=Int) (fun k2=>Ao (σ:=Int×Int) (fun next3 p=>match p with
   | (v4,v5)=>if (decide (v5<((x::t).length:Int)))=true then Option.bind (geti (x::t) v5) fun v6=>next3 (g v4 v6,(AD (v5+1))) else k2 v4) fuel (x,1)) (fun v=>some v)=some (t.foldl g x):=by
 rw[AB]
 refine (B9 (fun s:Int×Int=>∃j:Nat,s.2=(j+1:Nat)/\j<=t.length) (fun s=>((x::t).length-s.2).toNat) (fun s=>some ((t.drop (s.2.toNat-1)).foldl g s.1)) ?_ fuel (x,1) ⟨0,rfl,Nat.zero_le _⟩ (BS (by simp;omega))).trans rfl
 rintro next ⟨m,i⟩ ⟨j,h1,h2⟩ hn
 dsimp only at h1
 subst h1
 dsimp only
 have e1:((j+1:Nat):Int).toNat-1=j:=by omega
 rw[e1]
 by_cases hj:j<t.length
 ·rw[if_pos (by simp only[X12,decide_eq_true_eq];omega),CS (by simp;omega),AA,AP (by omega)]
  rw[hn _ ⟨j+1,by simp,by omega⟩ (by simp only[X12];omega)]
  have e2:(((j+1:Nat):Int)+1).toNat-1=j+1:=by omega
  simp only[e2,List.getElem_cons_succ]
  rw[List.drop_eq_getElem_cons hj,List.foldl_cons]
 rw[if_neg (by simp only[X12,decide_eq_true_eq];omega),List.drop_eq_nil_of_le (by omega)]
 rfl
def mn (a b:Int):Int:=if b<a then b else a
def mx (a b:Int):Int:=if b > a then b else a
theorem c8 {x:Int}{t:List Int}(hl:t.length<=1000000000):Dn (x::t)=some (t.foldl mn x):=by
 unfold Dn
 rw[if_neg (by simp;omega),show geti (x::t) 0=some x from CS (l:=x::t) (i:=0) (by simp),AA]
 exact mmR (g:=mn) hl
theorem cy {x:Int}{t:List Int}(hl:t.length<=1000000000):Do (x::t)=some (t.foldl mx x):=by
 unfold Do
 rw[if_neg (by simp;omega),show geti (x::t) 0=some x from CS (l:=x::t) (i:=0) (by simp),AA]
 exact mmR (g:=mx) hl
theorem Zb (n:Int) :∀(t:List Int) (x:Int),decide (n<=t.foldl mn x)=(x::t).all fun y=>decide (n<=y)
 | [],x=>by rw[List.all_cons,List.all_nil,Bool.and_true];rfl
 | y::t,x=>by
  rw[List.foldl_cons,Zb n t (mn x y)]
  simp only[List.all_cons]
  unfold mn
  rw[X28]
  simp only[X27,decide_eq_true_eq]
  constructor
  ·rintro⟨h1,h2⟩;split at h1<;>exact⟨by omega,by omega,h2⟩
  rintro⟨h1,h2,h3⟩;split<;>exact⟨by omega,h3⟩
theorem aG (n:Int) :∀(t:List Int) (x:Int),decide (t.foldl mx x<=n)=(x::t).all fun y=>decide (y<=n)
 | [],x=>by rw[List.all_cons,List.all_nil,Bool.and_true];rfl
 | y::t,x=>by
  rw[List.foldl_cons,aG n t (mx x y)]
  simp only[List.all_cons]
  unfold mx
  rw[X28]
  simp only[X27,decide_eq_true_eq]
  constructor
  ·rintro⟨h1,h2⟩;split at h1<;>exact⟨by omega,by omega,h2⟩
  rintro⟨h1,h2,h3⟩;split<;>exact⟨by omega,h3⟩
theorem QY {m x:Int}{t:List Int}(hl:t.length<=1000000000):Dh m (x::t)=some ((x::t).all (inR m)):=by
 unfold Dh
 rw[AB,c8 hl,AA,cy hl]
 have e:(x::t).all (inR m)=(decide (0<=t.foldl mn x)&&decide (t.foldl mx x<=m)):=by
  rw[Zb,aG,X28,X27]
  simp only[List.all_eq_true,inR,X27]
  exact⟨fun h=>⟨fun y hy=>(h y hy).1,fun y hy=>(h y hy).2⟩,fun h y hy=>⟨h.1 y hy,h.2 y hy⟩⟩
 rw[e]
 by_cases h:0<=t.foldl mn x
 ·rw[if_pos (by simpa using h),AA,decide_eq_true h];rfl
 rw[if_neg (by simpa using h),decide_eq_false h];rfl
theorem an (c:JAB):Eg c=some (okC c):=by
 unfold Eg
 rw[QY (by simp),AA]
 simp[okC]
theorem aI (c:JAF):DV c=some (okL c):=by
 unfold DV
 rw[QY (by simp),AA]
 simp[okL]
def Eh (l:List JAB):Bool:=l.all okC&&chainB JU l&&decide (l.length<=64)
def Ei (l:List JAF):Bool:=l.all okL&&chainB JX l&&decide (l.length<=64)
theorem ci {X:Type}{key:X->List Int}(a b:X):decide (Fb (key a) (key b) ≥ 0)=!ltK key a b:=by
 unfold ltK
 rw[X28]
 simp
theorem bg {α:Type}{ok:α->Bool}{lt:α->α->Bool}{l:List α}(hl:l.length<=1000000000){body:(Unit->Option Bool)->α->Nat->Unit->Option Bool}
  (h :∀next x i,body next x i ()=AC (τ:=Bool) (fun k5=>Option.bind (some (ok x)) fun v6=>if (!v6)=true then k5 true else if (decide ((i:Int) > 0))=true then Option.bind (geti l (AD ((i:Int)-1))) fun v7=>Option.bind (some (lt v7 x)) fun v8=>k5 (cond false true (cond true (!v8) false)) else k5 false) fun v9=>if v9=true then some false else next ()) :
  (AC (τ:=Unit) (fun k1=>Ak (σ:=Unit) (fun _=>k1 ()) body l 0 ()) fun _=>some (decide ((l.length:Int)<=64)))=some (l.all ok&&chainB lt l&&decide (l.length<=64)):=by
 rw[AB,dQ (ok:=ok) (lt:=lt) (F:=some false) (by omega)]
 ·have e:decide ((l.length:Int)<=64)=decide (l.length<=64):=by rw[X28];simp;omega
  rw[e]
  generalize (l.all ok&&chainB lt l)=b
  cases b<;>rfl
 ·intro next x _
  rw[h,AB,AA]
  cases ok x<;>rfl
 intro next x y i _ _ hg
 rw[h,AB,AA,hg,AA,AA,if_pos (show decide (((i+1:Nat):Int) > 0)=true by simp)]
 cases ok x<;>cases lt y x<;>rfl
theorem Kv {l:List JAB}(hl:l.length<=1000000000):E2 l=some (Eh l):=by
 unfold E2 Eh
 exact bg hl fun next x i=>by simp only[Sr,Vo]
theorem HV {l:List JAF}(hl:l.length<=1000000000):C2 l=some (Ei l):=by
 unfold C2 Ei
 exact bg hl fun next x i=>by simp only[Tc,We]
theorem MV {l:List JAB}(hl:l.length<=1000000000):DR l=some (Eh l):=by
 unfold DR Af Eh
 rw[bg (ok:=okC) (lt:=JU) hl fun next x i=>by simp only[an,Vk,AA,ci];rfl]
 rfl
theorem Ip {l:List JAF}(hl:l.length<=1000000000):Bo l=some (Ei l):=by
 unfold Bo Ac Ei
 rw[bg (ok:=okL) (lt:=JX) hl fun next x i=>by simp only[aI,VI,AA,ci];rfl]
 rfl
theorem Gm {l:List JAB}:Eh l=true↔(∀c∈l,okC c=true)/\(l.Pairwise fun a b=>JU a b=true)/\l.length<=64:=by
 unfold Eh
 rw[X27,X27,I0 NK,List.all_eq_true,decide_eq_true_eq,and_assoc]
theorem Gk {l:List JAF}:Ei l=true↔(∀c∈l,okL c=true)/\(l.Pairwise fun a b=>JX a b=true)/\l.length<=64:=by
 unfold Ei
 rw[X27,X27,I0 Ns,List.all_eq_true,decide_eq_true_eq,and_assoc]
theorem dj {α:Type}{e:α->α->Bool}{x:α} :∀(l:List α) (i:Nat),Ak (σ:=Unit) (fun _=>some false) (fun (next:Unit->Option Bool) (y:α) _ _=>if e y x=true then some true else next ()) l i ()=some (l.any fun y=>e y x)
 | [],_=>rfl
 | y::t,i=>by
  show (if e y x=true then some true else Ak _ _ t (i+1) ())=_
  rw[dj t (i+1),List.any_cons]
  cases e y x<;>rfl
theorem Ud (l:List JAB)(c:JAB):Gh l c=some (l.any fun y=>JAB.eqd y c):=by
 unfold Gh
 rw[AB]
 exact dj l 0
theorem NA (l:List JAF)(c:JAF):Dq l c=some (l.any fun y=>JAF.eqd y c):=by
 unfold Dq
 rw[AB]
 exact dj l 0
theorem Rf {α:Type}{l:List α}{n:Nat}(h:n<=l.length):part l 0 (n:Int)=some (l.take n):=by
 have:=Bj (l:=l) (a:=0) (b:=n) (by omega) h
 simpa using this
theorem D9 {α:Type}{l:List α}{n:Nat}(h:n<=l.length):part l (n:Int) (l.length:Int)=some (l.drop n):=by
 rw[Bj h (Nat.le_refl _),List.take_of_length_le (by simp)]
theorem RY {α:Type}{b:Nat}{lt:α->α->Bool}{l:List α}{x:α}(hb:Nat.ble b 65536=true)(hl:l.length+1<=1000000000){ρ:Type}{K:List α->Option ρ} :
  (Option.bind (part l 0 ((l.takeWhile (lt · x)).length:Int)) fun v14=>Option.bind (apnd (α:=α) b [] v14) fun _=>Option.bind (apnd (α:=α) b v14 ([x]:List α)) fun v15=>Option.bind (part l ((l.takeWhile (lt · x)).length:Int) (l.length:Int)) fun v16=>Option.bind (apnd (α:=α) b v15 v16) K)=K (H3 lt l x):=by
 have ht:=GV (lt · x) l
 obtain⟨h1,h2⟩:=takeWhile_take (lt · x) l
 rw[Rf (by omega),AA,AQ hb (by simp;omega),AA,AQ hb (by simp;omega),AA,D9 (by omega),AA,AQ hb (by simp;omega),AA,h1,h2]
 unfold H3
 simp
def OR:List JAB->List JAB:=canon JAB.eqd JU
def Oy:List JAF->List JAF:=canon JAF.eqd JX
theorem M6 {l:List JAB}{c:JAB}(hv:Eh l=true)(hc:okC c=true)(hl:l.length<64):Ff l c=some (if l.any (fun y=>JAB.eqd y c)=true then l else H3 JU l c,0):=by
 unfold Ff
 rw[AB,Kv (by omega),AA,hv,if_neg (by decide),Sr,AA,hc]
 show (if (bif false then true else !true)=true then _ else _)=_
 rw[if_neg (by decide),Ud,AA]
 by_cases h:(l.any fun y=>JAB.eqd y c)=true
 ·rw[if_pos h,if_pos h,AQ (by decide) (by simp;omega),AA]
 rw[if_neg h,if_neg h,if_neg (by simp;omega)]
 rw[cB (p:=(JU · c)) (fun y k9=>Option.bind (EP y c) fun v11=>k9 (cond true v11 false)) (by omega) (fun y _ k=>by rw[Vo];rfl)]
 exact RY (K:=fun v17=>some (v17,0)) (by decide) (by omega)
theorem IH {l:List JAF}{c:JAF}(hv:Ei l=true)(hc:okL c=true)(hl:l.length<64):DJ l c=some (if l.any (fun y=>JAF.eqd y c)=true then l else H3 JX l c,0):=by
 unfold DJ
 rw[AB,HV (by omega),AA,hv,if_neg (by decide),Tc,AA,hc]
 show (if (bif false then true else !true)=true then _ else _)=_
 rw[if_neg (by decide),NA,AA]
 by_cases h:(l.any fun y=>JAF.eqd y c)=true
 ·rw[if_pos h,if_pos h,AQ (by decide) (by simp;omega),AA]
 rw[if_neg h,if_neg h,if_neg (by simp;omega)]
 rw[cB (p:=(JX · c)) (fun y k9=>Option.bind (CL y c) fun v11=>k9 (cond true v11 false)) (by omega) (fun y _ k=>by rw[We];rfl)]
 exact RY (K:=fun v17=>some (v17,0)) (by decide) (by omega)
theorem Ou (l:List JAB):(OR l).Pairwise (fun a b=>JU a b=true)/\(∀x,x∈OR l↔x∈l)/\(OR l).length<=l.length:=L9 Zn NK M3 l
theorem OO (l:List JAF):(Oy l).Pairwise (fun a b=>JX a b=true)/\(∀x,x∈Oy l↔x∈l)/\(Oy l).length<=l.length:=L9 Zs Ns NT l
theorem MG {l:List JAB}(h :∀c∈l,okC c=true)(hl:l.length<=64):Eh (OR l)=true:=by
 obtain⟨h1,h2,h3⟩:=Ou l
 exact Gm.2 ⟨fun c hc=>h c ((h2 c).1 hc),h1,by omega⟩
theorem ME {l:List JAF}(h :∀c∈l,okL c=true)(hl:l.length<=64):Ei (Oy l)=true:=by
 obtain⟨h1,h2,h3⟩:=OO l
 exact Gk.2 ⟨fun c hc=>h c ((h2 c).1 hc),h1,by omega⟩
theorem Y5 (l:List JAB)(c:JAB):OR (l++[c])=if (OR l).any (fun y=>JAB.eqd y c)=true then OR l else H3 JU (OR l) c:=MK _ _ _ _
theorem ZD (l:List JAF)(c:JAF):Oy (l++[c])=if (Oy l).any (fun y=>JAF.eqd y c)=true then Oy l else H3 JX (Oy l) c:=MK _ _ _ _
theorem SE {l:List JAB}(hl:l.length<=1000000){ρ:Type}{K:List JAB->Option ρ}:(Option.bind (Ez Bg l) fun v=>Option.bind (Ax v) K)=K (OR l):=by
 obtain⟨r,h,h1,h2⟩:=QG Qw ZL (l:=l) (by omega)
 rw[h,AA]
 obtain⟨c,g,g1,g2⟩:=KA (lt:=JU) (e:=JAB.eqd) (zz:=⟨0,0⟩) WZ NK M3 Zn (l:=r) h2 (by rw[h1.length_eq];omega)
 have e:Ax r=KU JAB.eqd ⟨0,0⟩ r:=rfl
 rw[e,g,AA,Qm (l:=l) Zn WZ NK M3 g1 fun x=>(g2 x).trans h1.mem_iff]
 rfl
theorem SD {l:List JAF}(hl:l.length<=1000000){ρ:Type}{K:List JAF->Option ρ}:(Option.bind (Ez Ci l) fun v=>Option.bind (BC v) K)=K (Oy l):=by
 obtain⟨r,h,h1,h2⟩:=QG RF ZE (l:=l) (by omega)
 rw[h,AA]
 obtain⟨c,g,g1,g2⟩:=KA (lt:=JX) (e:=JAF.eqd) (zz:=⟨0,0,0⟩) Wh Ns NT Zs (l:=r) h2 (by rw[h1.length_eq];omega)
 have e:BC r=KU JAF.eqd ⟨0,0,0⟩ r:=rfl
 rw[e,g,AA,Qm (l:=l) Zs Wh Ns NT g1 fun x=>(g2 x).trans h1.mem_iff]
 rfl
def comms:List UInt8->List JAB
 | a::b::c::d::t=>⟨Db [a,b],Db [c,d]⟩::comms t
 | _=>[]
def CM:List Int->List JAF
 | a::b::c::t=>⟨a,b,c⟩::CM t
 | _=>[]
theorem He (a b c d:UInt8)(t:List UInt8):comms (a::b::c::d::t)=⟨Db [a,b],Db [c,d]⟩::comms t:=rfl
theorem HD (a b c:Int)(t:List Int):CM (a::b::c::t)=⟨a,b,c⟩::CM t:=rfl
theorem LX :∀l:List UInt8,(comms l).length=l.length/4
 | a::b::c::d::t=>by
  rw[He,X12,LX t]
  simp only[X12]
  omega
 | []=>rfl
 | [_]=>by simp[comms]
 | [_,_]=>by simp[comms]
 | [_,_,_]=>by simp[comms]
theorem Ju :∀l:List Int,(CM l).length=l.length/3
 | a::b::c::t=>by
  rw[HD,X12,Ju t]
  simp only[X12]
  omega
 | []=>rfl
 | [_]=>by simp[CM]
 | [_,_]=>by simp[CM]
theorem Ws (a b:UInt8):0<=Db [a,b]/\Db [a,b]<=65535:=by
 have:=Me [a,b]
 rw[Gw (by simp)]
 simp only[X12,X13] at this
 omega
theorem Ko :∀(l:List UInt8),∀c∈comms l,okC c=true
 | a::b::c::d::t=>by
  rw[He]
  intro x hx
  rcases List.mem_cons.1 hx with rfl | hx
  ·have h1:=Ws a b
   have h2:=Ws c d
   simp[okC,inR,h1,h2]
  exact Ko t x hx
 | []=>by intro n h;simp[comms] at h
 | [_]=>by intro n h;simp[comms] at h
 | [_,_]=>by intro n h;simp[comms] at h
 | [_,_,_]=>by intro n h;simp[comms] at h
theorem Iq :∀(l:List Int),(∀n∈l,0<=n/\n<=4294967295)->∀c∈CM l,okL c=true
 | a::b::c::t,h=>by
  rw[HD]
  intro x hx
  rcases List.mem_cons.1 hx with rfl | hx
  ·have h1:=h a (by simp)
   have h2:=h b (by simp)
   have h3:=h c (by simp)
   simp[okL,inR,h1,h2,h3]
  exact Iq t (fun n hn=>h n (by simp[hn])) x hx
 | [],_=>by intro n h;simp[CM] at h
 | [_],_=>by intro n h;simp[CM] at h
 | [_,_],_=>by intro n h;simp[CM] at h
theorem dT (a b c d:UInt8):Int.fdiv (Db [a,b,c,d]) (2^(min (Int.toNat 16) 64))=Db [a,b]/\AD ((BitVec.ofInt 64 (Db [a,b,c,d]) &&& BitVec.ofInt 64 65535).toNat:Int)=Db [c,d]:=by
 have h1:=a.toNat_lt
 have h2:=b.toNat_lt
 have h3:=c.toNat_lt
 have h4:=d.toNat_lt
 rw[Gw (by simp),Gw (by simp),Gw (by simp)]
 have v4:val [a,b,c,d]=((a.toNat*256+b.toNat)*256+c.toNat)*256+d.toNat:=by simp[val]
 have v2:val [a,b]=a.toNat*256+b.toNat:=by simp[val]
 have v2':val [c,d]=c.toNat*256+d.toNat:=by simp[val]
 rw[v4,v2,v2']
 constructor
 ·have e:((2:Int)^(min (Int.toNat 16) 64))=65536:=rfl
  rw[e,Int.fdiv_eq_ediv_of_nonneg _ (by omega)]
  omega
 have e:BitVec.ofInt 64 65535=BitVec.ofNat 64 (2^16-1):=rfl
 rw[BitVec.ofInt_natCast,e,BitVec.toNat_and,BitVec.toNat_ofNat,BitVec.toNat_ofNat,Nat.mod_eq_of_lt (show ((a.toNat*256+b.toNat)*256+c.toNat)*256+d.toNat<2^64 by omega),Nat.mod_eq_of_lt (show 2^16-1<2^64 by decide),Nat.and_two_pow_sub_one_eq_mod]
 rw[AP (by omega)]
 omega
theorem Ls :∀(l:List UInt8),(nums l).map (fun n=>(⟨Int.fdiv n (2^(min (Int.toNat 16) 64)),AD ((BitVec.ofInt 64 n &&& BitVec.ofInt 64 65535).toNat:Int)⟩:JAB))=comms l
 | a::b::c::d::t=>by
  rw[Fp,He,List.map_cons,Ls t]
  obtain⟨h1,h2⟩:=dT a b c d
  rw[h1,h2]
 | []=>rfl
 | [_]=>rfl
 | [_,_]=>rfl
 | [_,_,_]=>rfl
theorem Qy :∀(j:Nat) (t:List UInt8),4*(j+1)<=t.length->comms (t.take (4*(j+1)))=comms (t.take (4*j))++[⟨Db ((t.drop (4*j)).take 2),Db ((t.drop (4*j+2)).take 2)⟩]
 | 0,t,h=>by
  obtain⟨a,b,c,d,t,rfl⟩:=GA (l:=t) (by omega)
  rfl
 | j+1,t,h=>by
  obtain⟨a,b,c,d,t,rfl⟩:=GA (l:=t) (by omega)
  simp only[X12] at h
  have e1:4*(j+1+1)=4*(j+1)+1+1+1+1:=by omega
  have e2:4*(j+1)=4*j+1+1+1+1:=by omega
  have e3:4*j+1+1+1+1+2=(4*j+2)+1+1+1+1:=by omega
  have ih:=Qy j t (by omega)
  rw[e1]
  simp only[List.take_succ_cons,He]
  rw[ih,e2,e3]
  simp only[List.take_succ_cons,List.drop_succ_cons,He,List.cons_append]
theorem PM :∀(j:Nat) (t:List UInt8),12*(j+1)<=t.length->CM (nums (t.take (12*(j+1))))=CM (nums (t.take (12*j)))++[⟨Db ((t.drop (12*j)).take 4),Db ((t.drop (12*j+4)).take 4),Db ((t.drop (12*j+8)).take 4)⟩]
 | 0,t,h=>by
  obtain⟨a,b,c,d,t,rfl⟩:=GA (l:=t) (by omega)
  simp only[X12] at h
  obtain⟨a1,b1,c1,d1,t,rfl⟩:=GA (l:=t) (by omega)
  simp only[X12] at h
  obtain⟨a2,b2,c2,d2,t,rfl⟩:=GA (l:=t) (by omega)
  rfl
 | j+1,t,h=>by
  obtain⟨a,b,c,d,t,rfl⟩:=GA (l:=t) (by omega)
  simp only[X12] at h
  obtain⟨a1,b1,c1,d1,t,rfl⟩:=GA (l:=t) (by omega)
  simp only[X12] at h
  obtain⟨a2,b2,c2,d2,t,rfl⟩:=GA (l:=t) (by omega)
  simp only[X12] at h
  have e1:12*(j+1+1)=12*(j+1)+1+1+1+1+1+1+1+1+1+1+1+1:=by omega
  have e2:12*(j+1)=12*j+1+1+1+1+1+1+1+1+1+1+1+1:=by omega
  have e3:12*j+1+1+1+1+1+1+1+1+1+1+1+1+4=(12*j+4)+1+1+1+1+1+1+1+1+1+1+1+1:=by omega
  have e4:12*j+1+1+1+1+1+1+1+1+1+1+1+1+8=(12*j+8)+1+1+1+1+1+1+1+1+1+1+1+1:=by omega
  have ih:=PM j t (by omega)
  rw[e1]
  simp only[List.take_succ_cons,Fp,HD]
  rw[ih,e2,e3,e4]
  simp only[List.take_succ_cons,List.drop_succ_cons,Fp,HD,List.cons_append]
theorem ej {d:List UInt8}{ρ:Type}{K:List JAB->Option ρ}(h1:d.length%4=0)(h2:d.length/4<=64) :
  AC (τ:=List JAB) (fun k58=>Ao (σ:=Int×(List JAB)) (fun next59 p=>match p with
   | (v60,v61)=>if (decide (v60<(d.length:Int)))=true then
     Option.bind (part d v60 (AD (v60+2))) fun v62=>
     Option.bind (Az v62) fun v63=>
     Option.bind (part d (AD (v60+2)) (AD (v60+4))) fun v64=>
     Option.bind (Az v64) fun v65=>
     Option.bind (Ff v61 (⟨v63,v65⟩:JAB)) fun x=>match x with | (v66,v67)=>next59 ((AD (v60+4)),v66)
    else k58 v61) fuel (0,[])) K=K (OR (comms d)):=by
 rw[AB]
 refine (B9 (fun s:Int×List JAB=>∃j:Nat,s.1=(4*j:Nat)/\4*j<=d.length/\s.2=OR (comms (d.take (4*j)))) (fun s=>(d.length-s.1).toNat) (fun _=>K (OR (comms d))) ?_ fuel (0,[]) ⟨0,rfl,Nat.zero_le _,rfl⟩ (BS (by simp only;omega))).trans rfl
 rintro next ⟨v,l⟩ ⟨j,g1,g2,g3⟩ hn
 dsimp only at g1 g2 g3
 subst g1 g3
 dsimp only
 by_cases hj:4*j<d.length
 ·rw[if_pos (by simp only[decide_eq_true_eq];omega)]
  have e1:AD (((4*j:Nat):Int)+2)=((4*j+2:Nat):Int):=by rw[AP (by omega)];omega
  have e2:AD (((4*j:Nat):Int)+4)=((4*j+4:Nat):Int):=by rw[AP (by omega)];omega
  have hlen:=LX (d.take (4*j))
  rw[X18] at hlen
  have hs:=(Ou (comms (d.take (4*j)))).2.2
  rw[e1,e2,Bj (by omega) (by omega),AA,BP,AA,Bj (by omega) (by omega),AA,BP,AA,
   show 4*j+2-4*j=2 by omega,show 4*j+4-(4*j+2)=2 by omega]
  have ht:=Qy j d (by omega)
  have hok:okC ⟨Db ((d.drop (4*j)).take 2),Db ((d.drop (4*j+2)).take 2)⟩=true:=Ko (d.take (4*(j+1))) _ (by rw[ht];simp)
  rw[M6 (MG (Ko _) (by omega)) hok (by omega),AA,<- Y5,<- ht]
  exact hn _ ⟨j+1,by simp only;omega,by omega,rfl⟩ (by simp only;omega)
 rw[if_neg (by simp only[decide_eq_true_eq];omega),List.take_of_length_le (by omega)]
theorem c9 {d:List UInt8}{ρ:Type}{K:List JAF->Option ρ}(h1:d.length%12=0)(h2:d.length/12<=64) :
  AC (τ:=List JAF) (fun k72=>Ao (σ:=Int×(List JAF)) (fun next73 p=>match p with
   | (v74,v75)=>if (decide (v74<(d.length:Int)))=true then
     Option.bind (part d v74 (AD (v74+4))) fun v76=>
     Option.bind (Az v76) fun v77=>
     Option.bind (part d (AD (v74+4)) (AD (v74+8))) fun v78=>
     Option.bind (Az v78) fun v79=>
     Option.bind (part d (AD (v74+8)) (AD (v74+12))) fun v80=>
     Option.bind (Az v80) fun v81=>
     Option.bind (DJ v75 (⟨v77,v79,v81⟩:JAF)) fun x=>match x with | (v82,v83)=>next73 ((AD (v74+12)),v82)
    else k72 v75) fuel (0,[])) K=K (Oy (CM (nums d))):=by
 rw[AB]
 refine (B9 (fun s:Int×List JAF=>∃j:Nat,s.1=(12*j:Nat)/\12*j<=d.length/\s.2=Oy (CM (nums (d.take (12*j))))) (fun s=>(d.length-s.1).toNat) (fun _=>K (Oy (CM (nums d)))) ?_ fuel (0,[]) ⟨0,rfl,Nat.zero_le _,rfl⟩ (BS (by simp only;omega))).trans rfl
 rintro next ⟨v,l⟩ ⟨j,g1,g2,g3⟩ hn
 dsimp only at g1 g2 g3
 subst g1 g3
 dsimp only
 by_cases hj:12*j<d.length
 ·rw[if_pos (by simp only[decide_eq_true_eq];omega)]
  have e1:AD (((12*j:Nat):Int)+4)=((12*j+4:Nat):Int):=by rw[AP (by omega)];omega
  have e2:AD (((12*j:Nat):Int)+8)=((12*j+8:Nat):Int):=by rw[AP (by omega)];omega
  have e3:AD (((12*j:Nat):Int)+12)=((12*j+12:Nat):Int):=by rw[AP (by omega)];omega
  have hlen:=Ju (nums (d.take (12*j)))
  rw[E4,X18] at hlen
  have hs:=(OO (CM (nums (d.take (12*j))))).2.2
  rw[e1,e2,e3,Bj (by omega) (by omega),AA,BP,AA,Bj (by omega) (by omega),AA,BP,AA,Bj (by omega) (by omega),AA,BP,AA,
   show 12*j+4-12*j=4 by omega,show 12*j+8-(12*j+4)=4 by omega,show 12*j+12-(12*j+8)=4 by omega]
  have ht:=PM j d (by omega)
  have hok:okL ⟨Db ((d.drop (12*j)).take 4),Db ((d.drop (12*j+4)).take 4),Db ((d.drop (12*j+8)).take 4)⟩=true:=Iq _ (KI (d.take (12*(j+1)))) _ (by rw[ht];simp)
  rw[IH (ME (Iq _ (KI _)) (by omega)) hok (by omega),AA,<- ZD,<- ht]
  exact hn _ ⟨j+1,by simp only;omega,by omega,rfl⟩ (by simp only;omega)
 rw[if_neg (by simp only[decide_eq_true_eq];omega),List.take_of_length_le (by omega)]
theorem ct {n:List Int}{ρ:Type}{K:List JAF->Option ρ}(h1:n.length%3=0)(h2:n.length<=1000000) :
  AC (τ:=List JAF) (fun k130=>Ao (σ:=(List JAF)×(List Int)) (fun next131 p=>match p with
   | (v132,v133)=>if (decide ((v133.length:Int) > 0))=true then
     Option.bind (geti v133 0) fun v134=>
     Option.bind (geti v133 1) fun v135=>
     Option.bind (geti v133 2) fun v136=>
     Option.bind (apnd (α:=JAF) 24 v132 ([(⟨v134,v135,v136⟩:JAF)]:List JAF)) fun v137=>
     Option.bind (part v133 3 (v133.length:Int)) fun v138=>
     next131 (v137,v138)
    else k130 v132) fuel ([],n)) K=K (CM n):=by
 rw[AB]
 refine (B9 (fun s:List JAF×List Int=>s.2.length%3=0/\s.1.length+s.2.length<=1000000) (fun s=>s.2.length) (fun s=>K (s.1++CM s.2)) ?_ fuel ([],n) ⟨h1,by simpa using h2⟩ (BS (by simp only;omega))).trans rfl
 rintro next ⟨o,v⟩ ⟨g1,g2⟩ hn
 dsimp only at g1 g2 ⊢
 match v,g1,g2,hn with
 | [],_,_,_=>simp[CM]
 | [_],g1,_,_=>simp at g1
 | [_,_],g1,_,_=>simp at g1
 | a::b::c::t,g1,g2,hn=>
  simp only[X12] at g1 g2
  have e1:geti (a::b::c::t) 0=some a:=CS (l:=a::b::c::t) (i:=0) (by simp)
  have e2:geti (a::b::c::t) 1=some b:=CS (l:=a::b::c::t) (i:=1) (by simp)
  have e3:geti (a::b::c::t) 2=some c:=CS (l:=a::b::c::t) (i:=2) (by simp)
  have e4:part (a::b::c::t) 3 ((a::b::c::t).length:Int)=some t:=D9 (l:=a::b::c::t) (n:=3) (by simp)
  rw[if_pos (by simp;omega),e1,AA,e2,AA,e3,AA,AQ (by decide) (by simp;omega),AA,e4,AA,hn _ ⟨by simp only;omega,by simp;omega⟩ (by simp only[X12];omega),HD]
  simp
end Go.AX.Q19
end
section
end
section
namespace Go.AX.Q19
open Go Go.AX
def toP (a:JAE):Int×Bool×UInt64×UInt64×Int×Int×Int×(List JAD)×(List JAB)×(List JAF):=(a.Origin,a.Next.V6,a.Next.Hi,a.Next.Lo,a.MED,a.Pref,a.OTC,a.Path,a.Communities,a.JAF)
def toR (a:JAE):Int×(List JAD)×Bool×UInt64×UInt64×Int×Int×Int×(List JAB)×(List JAF):=(a.Origin,a.Path,a.Next.V6,a.Next.Hi,a.Next.Lo,a.MED,a.Pref,a.OTC,a.Communities,a.JAF)
def MM (p:List JAD):Bool:=(DZ p).getD false
def I9 (d:List UInt8):Option Int:=if d.length=1/\Db d<=2 then some (Db d) else none
def Ol (d:List UInt8):Option (List JAD):=(rdL d []).bind fun p=>if MM p=true then some p else none
def addrOf (d:List UInt8):Addr:=((BF d).getD (⟨false,0,0⟩,0)).1
def RI (d:List UInt8):Option Addr:=if d.length=4 then some (addrOf d) else none
def rd4 (d:List UInt8):Option Int:=if d.length=4 then some (Db d) else none
def WI (d:List UInt8):Option Int:=if d.length=4/\Db d≠0 then some (Db d) else none
def O1 (d:List UInt8):Option (List JAB):=if d.length≠0/\d.length%4=0/\d.length/4<=64 then some (OR (comms d)) else none
def Jk (d:List UInt8):Option (List JAF):=if d.length≠0/\d.length%12=0/\d.length/12<=64 then some (Oy (CM (nums d))) else none
def Fh (a:JAE)(t:Int)(d:List UInt8):Option JAE:=
 if t=1 then (I9 d).map fun v=>{ a with Origin:=v } else
 if t=2 then (Ol d).map fun v=>{ a with Path:=v } else
 if t=3 then (RI d).map fun v=>{ a with Next:=v } else
 if t=4 then (rd4 d).map fun v=>{ a with MED:=v } else
 if t=5 then (rd4 d).map fun v=>{ a with Pref:=v } else
 if t=8 then (O1 d).map fun v=>{ a with Communities:=v } else
 if t=32 then (Jk d).map fun v=>{ a with JAF:=v } else
 if t=35 then (WI d).map fun v=>{ a with OTC:=v } else some a
def stepS (a:JAE)(x:JAA):Option JAE:=if fl x.Type_=0 then some a else if Dj x=true then Fh a x.Type_ x.Data else none
theorem HY (d:List UInt8):A5 d=BF d:=rfl
instance (a0:List UInt8):Tt (BF a0):=by unfold BF;exact Tt.auto
theorem Tm (d:List UInt8) :∃e,BF d=some (addrOf d,e):=by
 have h :∃r,BF d=some r:=Tt.h
 obtain⟨⟨r,e⟩,h⟩:=h
 refine⟨e,?_⟩
 unfold addrOf
 rw[h];rfl
theorem LS {d:List UInt8}(h:d.length=4):0<=Db d/\Db d<=4294967295:=by
 have:=Me d
 rw[Gw (by omega)]
 rw[h] at this
 omega
section
variable {ρ:Type} {F:Option ρ} {next:Int×Bool×UInt64×UInt64×Int×Int×Int×(List JAD)×(List JAB)×(List JAF)->Option ρ} {x:JAA} {a:JAE}
theorem bj (h:x.Type_=1)(e:fl x.Type_=64):Ed F next x (toP a)=match stepS a x with | none=>F | some a'=>next (toP a'):=by
 unfold Ed toP stepS Fh I9
 dsimp only
 rw[AB,if_pos (by rw[h];rfl),AB,Br x (by rw[e];decide),if_neg (by rw[e];decide)]
 simp only[AB,AA,C4,h,if_true]
 have e1:((x.Data.length:Int)==1)=decide (x.Data.length=1):=by rw[X28];simp;omega
 rw[e1]
 cases hr:Dj x<;>by_cases h1:x.Data.length=1<;>by_cases h2:Db x.Data<=2<;>simp[h1,h2]
theorem bR (h:x.Type_=3)(e:fl x.Type_=64):Ed F next x (toP a)=match stepS a x with | none=>F | some a'=>next (toP a'):=by
 unfold Ed toP stepS Fh RI
 dsimp only
 obtain⟨er,he⟩:=Tm x.Data
 rw[AB,if_neg (by rw[h];decide),if_neg (by rw[h];decide),if_pos (by rw[h];rfl),AB,Br x (by rw[e];decide),if_neg (by rw[e];decide),h]
 simp only[AB,AA,he]
 have e1:((x.Data.length:Int)==4)=decide (x.Data.length=4):=by rw[X28];simp;omega
 rw[e1]
 cases hr:Dj x<;>by_cases h1:x.Data.length=4<;>simp[h1]
theorem bM (h:x.Type_=4)(e:fl x.Type_=128):Ed F next x (toP a)=match stepS a x with | none=>F | some a'=>next (toP a'):=by
 unfold Ed toP stepS Fh rd4
 dsimp only
 rw[AB,if_neg (by rw[h];decide),if_neg (by rw[h];decide),if_neg (by rw[h];decide),if_pos (by rw[h];rfl),AB,Br x (by rw[e];decide),if_neg (by rw[e];decide),h]
 simp only[AB,AA,C4]
 have e1:((x.Data.length:Int)==4)=decide (x.Data.length=4):=by rw[X28];simp;omega
 rw[e1]
 cases hr:Dj x<;>by_cases h1:x.Data.length=4<;>simp[h1]
theorem bu (h:x.Type_=5)(e:fl x.Type_=64):Ed F next x (toP a)=match stepS a x with | none=>F | some a'=>next (toP a'):=by
 unfold Ed toP stepS Fh rd4
 dsimp only
 rw[AB,if_neg (by rw[h];decide),if_neg (by rw[h];decide),if_neg (by rw[h];decide),if_neg (by rw[h];decide),if_pos (by rw[h];rfl),AB,Br x (by rw[e];decide),if_neg (by rw[e];decide),h]
 simp only[AB,AA,C4]
 have e1:((x.Data.length:Int)==4)=decide (x.Data.length=4):=by rw[X28];simp;omega
 rw[e1]
 cases hr:Dj x<;>by_cases h1:x.Data.length=4<;>simp[h1]
theorem Zy (h:x.Type_=35)(e:fl x.Type_=192):Ed F next x (toP a)=match stepS a x with | none=>F | some a'=>next (toP a'):=by
 unfold Ed toP stepS Fh WI
 dsimp only
 rw[AB,if_neg (by rw[h];decide),if_neg (by rw[h];decide),if_neg (by rw[h];decide),if_neg (by rw[h];decide),if_neg (by rw[h];decide),if_neg (by rw[h];decide),if_neg (by rw[h];decide),if_pos (by rw[h];rfl),AB,Br x (by rw[e];decide),if_neg (by rw[e];decide),h]
 simp only[AB,AA,C4,number_eq]
 have e1:((x.Data.length:Int)==4)=decide (x.Data.length=4):=by rw[X28];simp;omega
 rw[e1]
 by_cases h1:x.Data.length=4
 ·have hg:=LS h1
  have h3:decide (1<=Db x.Data)=decide (Db x.Data≠0):=by rw[X28];simp;omega
  have h4:decide (Db x.Data<=4294967295)=true:=decide_eq_true hg.2
  rw[h3,h4]
  cases hr:Dj x<;>by_cases h2:Db x.Data=0<;>simp[h1,h2]
 cases hr:Dj x<;>simp[h1]
theorem cN (h:x.Type_≠1/\x.Type_≠2/\x.Type_≠3/\x.Type_≠4/\x.Type_≠5/\x.Type_≠8/\x.Type_≠32/\x.Type_≠35)(e:fl x.Type_=0):Ed F next x (toP a)=match stepS a x with | none=>F | some a'=>next (toP a'):=by
 obtain⟨h1,h2,h3,h4,h5,h6,h7,h8⟩:=h
 unfold Ed toP stepS
 dsimp only
 rw[AB,if_neg (by simpa using h1),if_neg (by simpa using h2),if_neg (by simpa using h3),if_neg (by simpa using h4),if_neg (by simpa using h5),if_neg (by simpa using h6),if_neg (by simpa using h7),if_neg (by simpa using h8),if_pos e]
theorem eK {α β ρ:Type}{g:β->α}{b:Nat}{K:List α->Option ρ}(hb:Nat.ble b 65536=true) :∀(l:List β) (i:Nat) (acc:List α),acc.length+l.length<=1000000000->Ak K (fun next x _ v=>Option.bind (apnd (α:=α) b v ([g x]:List α)) fun v'=>next v') l i acc=K (acc++l.map g)
 | [],i,acc,_=>by rw[List.map_nil,List.append_nil];rfl
 | x::t,i,acc,h=>by
  simp only[X12] at h
  show (Option.bind (apnd (α:=α) b acc ([g x]:List α)) fun v'=>Ak K _ t (i+1) v')=_
  rw[AQ hb (by simp;omega),AA,eK hb t (i+1) _ (by simp;omega)]
  simp
theorem bH (hd:x.Data.length<=1000000)(h:x.Type_=8)(e:fl x.Type_=192):Ed F next x (toP a)=match stepS a x with | none=>F | some a'=>next (toP a'):=by
 have er :∀d,Fh a 8 d=(O1 d).map fun v=>{ a with Communities:=v }:=fun _=>rfl
 unfold Ed toP stepS
 dsimp only
 rw[AB,if_neg (by rw[h];decide),if_neg (by rw[h];decide),if_neg (by rw[h];decide),if_neg (by rw[h];decide),if_neg (by rw[h];decide),if_pos (by rw[h];rfl),AB,Br x (by rw[e];decide),if_neg (by rw[e];decide),h,AA]
 by_cases hr:Dj x=true
 rotate_left
 ·have hr:Dj x=false:=by simpa using hr
  rw[hr]
  rfl
 have hl:=LX x.Data
 have hc:=Ou (comms x.Data)
 rw[hr,if_neg (by decide),AB,E1 (by omega),AA,AB,eK (by decide) _ _ _ (by rw[E4];simp;omega),Ls,List.nil_append,er]
 unfold O1
 show AC _ _=_
 rw[AB]
 have e1:((Int.tmod (x.Data.length:Int) 4)==0)=decide (x.Data.length%4=0):=by
  rw[Int.tmod_eq_emod_of_nonneg (by omega),X28];simp;omega
 have e2 :∀K:Bool->Option ρ,(AC (τ:=Bool) (fun k113=>if (decide (((comms x.Data).length:Int) > 0))=true then k113 (cond true (decide (((comms x.Data).length:Int)<=64)) false) else k113 false) K)=K (decide (0<(comms x.Data).length/\(comms x.Data).length<=64)):=by
  intro K
  rw[AB]
  by_cases g1:0 < (comms x.Data).length<;>by_cases g2:(comms x.Data).length<=64<;>simp[g1,g2]<;>first | (intro;omega)|(rw[decide_eq_true (by omega)])|(rw[decide_eq_false (by omega)])|omega
 rw[e2,SE (by omega)]
 simp only[AB,e1]
 by_cases g:x.Data.length≠0/\x.Data.length%4=0/\x.Data.length/4<=64
 ·rw[if_pos g,decide_eq_true (show 0<(comms x.Data).length/\(comms x.Data).length<=64 by omega),if_pos rfl,if_pos (by rw[decide_eq_true g.2.1];rfl),MV (by omega),MG (Ko _) (by omega)]
  rfl
 rw[if_neg g]
 by_cases g1:0<(comms x.Data).length/\(comms x.Data).length<=64
 ·rw[decide_eq_true g1,if_pos rfl,if_neg (by rw[decide_eq_false (by omega)];decide)]
  rfl
 rw[decide_eq_false g1,if_neg (by decide)]
 rfl
theorem aJ (hd:x.Data.length<=1000000)(h:x.Type_=32)(e:fl x.Type_=192):Ed F next x (toP a)=match stepS a x with | none=>F | some a'=>next (toP a'):=by
 have er :∀d,Fh a 32 d=(Jk d).map fun v=>{ a with JAF:=v }:=fun _=>rfl
 unfold Ed toP stepS
 dsimp only
 rw[AB,if_neg (by rw[h];decide),if_neg (by rw[h];decide),if_neg (by rw[h];decide),if_neg (by rw[h];decide),if_neg (by rw[h];decide),if_neg (by rw[h];decide),if_pos (by rw[h];rfl),AB,Br x (by rw[e];decide),if_neg (by rw[e];decide),h,AA]
 by_cases hr:Dj x=true
 rotate_left
 ·have hr:Dj x=false:=by simpa using hr
  rw[hr]
  rfl
 have e1:((Int.tmod (x.Data.length:Int) 12) != 0)=!decide (x.Data.length%12=0):=by
  rw[Int.tmod_eq_emod_of_nonneg (by omega),X28];simp;omega
 rw[hr,if_neg (by decide),AB,e1]
 by_cases g1:x.Data.length%12=0
 rotate_left
 ·rw[decide_eq_false g1,if_pos rfl,er]
  unfold Jk
  rw[if_neg (show ¬ (x.Data.length≠0/\x.Data.length%12=0/\x.Data.length/12<=64) by omega)]
  rfl
 have hl:=Ju (nums x.Data)
 rw[E4] at hl
 have hc:=OO (CM (nums x.Data))
 rw[decide_eq_true g1,if_neg (by decide),E1 (by omega),AA,ct (by rw[E4];omega) (by rw[E4];omega),er]
 unfold Jk
 show AC _ _=_
 rw[AB]
 have e2 :∀K:Bool->Option ρ,(AC (τ:=Bool) (fun k113=>if (decide (((CM (nums x.Data)).length:Int) > 0))=true then k113 (cond true (decide (((CM (nums x.Data)).length:Int)<=64)) false) else k113 false) K)=K (decide (0<(CM (nums x.Data)).length/\(CM (nums x.Data)).length<=64)):=by
  intro K
  rw[AB]
  by_cases g1:0 < (CM (nums x.Data)).length<;>by_cases g2:(CM (nums x.Data)).length<=64<;>simp[g1,g2]<;>first | (intro;omega)|(rw[decide_eq_true (by omega)])|(rw[decide_eq_false (by omega)])|omega
 rw[e2,SD (by omega)]
 simp only[AB]
 by_cases g:x.Data.length≠0/\x.Data.length%12=0/\x.Data.length/12<=64
 ·rw[if_pos g,decide_eq_true (show 0<(CM (nums x.Data)).length/\(CM (nums x.Data)).length<=64 by omega),if_pos rfl,Ip (by omega),ME (Iq _ (KI _)) (by omega)]
  rfl
 rw[if_neg g,decide_eq_false (show ¬ (0<(CM (nums x.Data)).length/\(CM (nums x.Data)).length<=64) by omega),if_neg (by decide)]
 rfl
end
end Go.AX.Q19
end
section
namespace Go.AX.Q19
open Go Go.AX
def N3 (n:Int):Bool:=decide (1<=n)&&decide (n<=4294967295)
def S8 (s:JAD):Bool:=decide (s.ASNs.length≠0)&&(s.ASNs.all N3&&chainB (fun a b=>!s.Set || ltI a b) s.ASNs)
def sgl (a b:JAD):Bool:=b.Set || a.Set
def tot (p:List JAD):Nat:=p.foldl (fun n s=>n+s.ASNs.length) 0
theorem Z0 (p:List JAD)(n:Nat):p.foldl (fun n s=>n+s.ASNs.length) n=n+tot p:=by
 unfold tot
 induction p generalizing n with
 | nil=>rfl
 | cons s t ih=>rw[List.foldl_cons,List.foldl_cons,ih,ih (0+_)];omega
theorem EV (s:JAD)(p:List JAD):tot (s::p)=s.ASNs.length+tot p:=by
 conv=>lhs;unfold tot
 rw[List.foldl_cons,Z0];omega
theorem NM (p q:List JAD):tot (p++q)=tot p+tot q:=by
 induction p with
 | nil=>rw[List.nil_append];exact (Nat.zero_add _).symm
 | cons s t ih=>rw[List.cons_append,EV,EV,ih];omega
theorem cY {p:List JAD}{s:JAD}(h:s∈p):s.ASNs.length<=tot p:=by
 induction p with
 | nil=>simp at h
 | cons x t ih=>
  rw[EV]
  rcases List.mem_cons.1 h with rfl | h
  ·omega
  have:=ih h;omega
def GO (p:List JAD):Bool:=p.all S8&&chainB sgl p&&decide (tot p<=64)
theorem X9 :∀(p:List JAD) (n:Nat),n+tot p<=1000000000->p.foldl (fun (v:Int) s=>AD (v+(s.ASNs.length:Int))) (n:Int)=((n+tot p:Nat):Int)
 | [],n,_=>rfl
 | s::t,n,h=>by
  rw[EV] at h
  rw[List.foldl_cons,EV,AP (by omega),show (n:Int)+(s.ASNs.length:Int)=((n+s.ASNs.length:Nat):Int) by omega,X9 t _ (by omega)]
  congr 1
  omega
theorem Yy {s:JAD}(hl:s.ASNs.length<=1000000000){K:Unit->Option Bool}{body:(Unit->Option Bool)->Int->Nat->Unit->Option Bool}
  (hb :∀next x i,body next x i ()=AC (τ:=Bool) (fun k14=>if (!N3 x)=true then k14 true else if s.Set=true then if (cond true (decide ((i:Int) > 0)) false)=true then Option.bind (geti s.ASNs (AD ((i:Int)-1))) fun v15=>k14 (cond false true (cond true (decide (v15 ≥ x)) false)) else k14 false else k14 false) fun v16=>if v16=true then some false else next ()) :
  Ak K body s.ASNs 0 ()=if s.ASNs.all N3&&chainB (fun a b=>!s.Set || ltI a b) s.ASNs then K () else some false:=by
 refine dQ (by omega) (fun next x _=>?_) fun next x y i _ _ hg=>?_
 ·rw[hb,AB]
  cases N3 x<;>cases s.Set<;>rfl
 rw[hb,AB,hg,AA]
 have e:decide (((i+1:Nat):Int) > 0)=true:=by simp
 have e2:decide (y ≥ x)=!ltI y x:=by unfold ltI;rw[X28];simp
 rw[e,e2]
 cases N3 x<;>cases s.Set<;>cases ltI y x<;>rfl
theorem S3 {p:List JAD}(hl:p.length<=1000000000)(ht:tot p<=1000000000){body:(Int->Option Bool)->JAD->Nat->Int->Option Bool}{inner:JAD->(Unit->Option Bool)->Int->Nat->Unit->Option Bool}
  (hb :∀next x i v,body next x i v=AC (τ:=Unit) (fun k6=>AC (τ:=Bool) (fun k7=>if ((x.ASNs.length:Int)==0)=true then k7 true else if (decide ((i:Int) > 0))=true then if (cond true (!x.Set) false)=true then Option.bind (geti p (AD ((i:Int)-1))) fun v8=>k7 (cond false true (cond true (!v8.Set) false)) else k7 false else k7 false) fun v9=>if v9=true then some false else AC (τ:=Unit) (fun k10=>Ak (σ:=Unit) (fun _=>k10 ()) (inner x) x.ASNs 0 ()) fun _=>k6 ()) fun _=>next (AD (v+(x.ASNs.length:Int))))
  (hi :∀s next x i,inner s next x i ()=AC (τ:=Bool) (fun k14=>if (!N3 x)=true then k14 true else if s.Set=true then if (cond true (decide ((i:Int) > 0)) false)=true then Option.bind (geti s.ASNs (AD ((i:Int)-1))) fun v15=>k14 (cond false true (cond true (decide (v15 ≥ x)) false)) else k14 false else k14 false) fun v16=>if v16=true then some false else next ()) :
  (AC (τ:=Int) (fun k1=>Ak (σ:=Int) (fun v=>k1 v) body p 0 0) fun v=>some (decide (v<=64)))=some (GO p):=by
 rw[AB]
 have hin :∀s∈p,∀K:Unit->Option Bool,Ak K (inner s) s.ASNs 0 ()=if s.ASNs.all N3&&chainB (fun a b=>!s.Set || ltI a b) s.ASNs then K () else some false:=fun s hs K=>Yy (by have:=cY hs;omega) (hi s)
 refine (fK (g:=fun (v:Int) s=>AD (v+(s.ASNs.length:Int))) (ok:=S8) (lt:=sgl) (F:=some false) (by omega) (fun next x v hx=>?_) fun next x y i v hx _ hg=>?_).trans ?_
 ·rw[hb,AB,AB]
  unfold S8
  by_cases h0:x.ASNs.length=0
  ·have e:((x.ASNs.length:Int)==0)=true:=by simp[h0]
   rw[if_pos e]
   simp[h0]
  have e:¬ ((x.ASNs.length:Int)==0)=true:=by simpa using h0
  rw[if_neg e,if_neg (by simp)]
  show (if false=true then _ else _)=_
  rw[if_neg (by decide),AB,hin x hx]
  simp only[h0,ne_eq,not_false_eq_true,decide_true,Bool.true_and]
 ·rw[hb,AB,AB,hg]
  unfold S8 sgl
  by_cases h0:x.ASNs.length=0
  ·have e:((x.ASNs.length:Int)==0)=true:=by simp[h0]
   rw[if_pos e]
   simp[h0]
  have e:¬ ((x.ASNs.length:Int)==0)=true:=by simpa using h0
  have e2:decide (((i+1:Nat):Int) > 0)=true:=by simp
  rw[if_neg e,if_pos e2,AA,AB,hin x hx]
  simp only[h0,ne_eq,not_false_eq_true,decide_true,Bool.true_and]
  generalize (x.ASNs.all N3&&chainB (fun a b=>!x.Set || ltI a b) x.ASNs)=c
  cases x.Set<;>cases y.Set<;>cases c<;>rfl
 have hs:=X9 p 0 (by omega)
 rw[Nat.zero_add] at hs
 have hs:p.foldl (fun (v:Int) s=>AD (v+(s.ASNs.length:Int))) 0=(tot p:Int):=hs
 rw[hs]
 unfold GO
 have e:decide ((tot p:Int)<=64)=decide (tot p<=64):=by rw[X28];simp;omega
 simp only[e]
 generalize (p.all S8&&chainB sgl p)=c
 cases c<;>rfl
theorem F9 {p:List JAD}(hl:p.length<=1000000000)(ht:tot p<=1000000000):DZ p=some (GO p):=by
 unfold DZ
 refine S3 hl ht (fun next x i v=>rfl) fun s next x i=>?_
 have e:(!N3 x)=(decide (x < 1) || decide (x > 4294967295)):=by unfold N3;rw[X28];simp<;>omega
 rw[AB,AB,e]
 cases decide (x < 1)<;>cases decide (x > 4294967295)<;>rfl
theorem P3 {p:List JAD}(hl:p.length<=1000000000)(ht:tot p<=1000000000):E8 p=some (GO p):=by
 unfold E8
 refine S3 hl ht (fun next x i v=>rfl) fun s next x i=>?_
 rw[number_eq]
 rfl
theorem OK {p:List JAD}(hl:p.length<=1000000000)(ht:tot p<=1000000000):MM p=GO p:=by
 unfold MM
 rw[F9 hl ht];rfl
theorem Pq (p:List JAD)(b:Bool){m:List Int}(hm:m.length<=1000000):(Hv p b m).length<=p.length+1/\tot (Hv p b m)<=tot p+m.length:=by
 unfold Hv
 cases b
 ·simp only[Bool.false_eq_true,if_false]
  rcases List.eq_nil_or_concat p with rfl | ⟨q,s,rfl⟩
  ·exact⟨by simp,by simp[tot]⟩
  rw[List.concat_eq_append]
  simp only[List.getLast?_concat,List.dropLast_concat]
  split
  ·rw[NM,EV]
   exact⟨by simp,by simp[tot]⟩
  rw[NM,EV,NM,EV]
  exact⟨by simp,by simp[tot];omega⟩
 simp only[if_true]
 rw[NM,EV]
 have:=U8 hm
 exact⟨by simp,by simp only[tot,List.foldl_nil];omega⟩
theorem QO :∀(n:Nat) (b:List UInt8) (p q:List JAD),b.length<=1000000->Ks n b p=some q->q.length<=p.length+b.length/\tot q<=tot p+b.length
 | n,[],p,q,_,h=>by
  rw[O4] at h
  obtain rfl:=X25 h
  exact⟨Nat.le_refl _,Nat.le_refl _⟩
 | n+1,[x],p,q,_,h=>by simp[Ks] at h
 | n+1,k::c::t,p,q,hb,h=>by
  simp only[X12] at hb
  simp only[Ks] at h
  split at h
  ·cases h
  rename_i hk
  have h1:=QO n _ _ _ (by simp only[X17];omega) h
  have hn:(nums (t.take (4*c.toNat))).length=c.toNat:=by rw[E4,X18];omega
  have hc:=c.toNat_lt
  have h2:=Pq p (k.toNat==1) (m:=nums (t.take (4*c.toNat))) (by omega)
  simp only[X17] at h1
  simp only[X12]
  omega
 | 0,x::b,p,q,_,h=>by
  have:Ks 0 (x::b) p=none:=by cases b<;>rfl
  rw[this] at h;simp at h
theorem VT {b:List UInt8}{q:List JAD}(hb:b.length<=1000000)(h:rdL b []=some q):q.length<=1000000/\tot q<=1000000:=by
 have:=QO _ _ _ _ hb h
 simp only[X13,tot,List.foldl_nil] at this
 unfold tot
 omega
section
variable {ρ:Type} {F:Option ρ} {next:Int×Bool×UInt64×UInt64×Int×Int×Int×(List JAD)×(List JAB)×(List JAF)->Option ρ} {x:JAA} {a:JAE}
theorem bm (hd:x.Data.length<=1000000)(h:x.Type_=2)(e:fl x.Type_=64)(hp:a.Path=[]):Ed F next x (toP a)=match stepS a x with | none=>F | some a'=>next (toP a'):=by
 have er :∀d,Fh a 2 d=(Ol d).map fun v=>{ a with Path:=v }:=fun _=>rfl
 unfold Ed toP stepS
 dsimp only
 rw[AB,if_neg (by rw[h];decide),if_pos (by rw[h];rfl),AB,Br x (by rw[e];decide),if_neg (by rw[e];decide),h,AA,er]
 by_cases hr:Dj x=true
 rotate_left
 ·have hr:Dj x=false:=by simpa using hr
  rw[hr]
  rfl
 have ck:chk (([]:List JAD)=[])=some ():=by unfold chk;rw[if_pos rfl]
 rw[hr,if_neg (by decide),AB,AB,hp,ck,AA]
 refine (B9 (fun s:List UInt8×List JAD×Nat×List Int=>Lk s.2.1 s.2.2.1 s.2.2.2/\(s.1.length+s.2.1.length<=1000000/\s.1.length+tot s.2.1<=1000000)/\s.1.length+s.2.2.2.length<=1000000) (fun s=>s.1.length)
  (fun s=>match rdL s.1 s.2.1 with | none=>F | some p=>if MM p=true then next (toP { a with Path:=p }) else F) ?_ fuel (x.Data,[],0,[]) ⟨.inl rfl,by simpa[tot] using hd,by simpa using hd⟩ (BS (by simp only;omega))).trans ?_
 rotate_left
 ·unfold Ol
  dsimp only
  cases rdL x.Data [] with
  | none=>rfl
  | some p=>
   rw[Option.bind_some]
   show (if MM p=true then _ else _)=_
   cases MM p<;>rfl
 rintro next' ⟨b,p,i,l⟩ ⟨h1,⟨h2,h2'⟩,h3⟩ hn
 dsimp only at h1 h2 h2' h3 ⊢
 match b,h2,h2',h3,hn with
 | [],h2,h2',_,_=>
  rw[cU,if_neg (by simp),P3 (by omega) (by simp only[X13] at h2';omega),AA]
  show _=(if MM p=true then next (toP { a with Path:=p }) else F)
  simp only[X13] at h2 h2'
  rw[OK (by omega) (by omega)]
  cases GO p<;>rfl
 | [x],_,_,_,_=>rfl
 | k::c::t,h2,h2',h3,hn=>
  simp only[X12] at h2 h2' h3
  rw[if_pos (by simp;omega),Va,Zj (by omega)]
  by_cases hb:IY k c t=true
  ·rw[if_pos hb,if_pos hb]
   rfl
  rw[if_neg hb,if_neg hb]
  have hb':(k.toNat=1\/k.toNat=2)/\1<=c.toNat/\4*c.toNat<=t.length:=by
   simp only[IY,decide_eq_true_eq] at hb
   omega
  obtain⟨b1,b2,b3⟩:=hb'
  have hc:=c.toNat_lt
  have epart:part (k::c::t) 2 ((2+4*c.toNat:Nat):Int)=some (t.take (4*c.toNat)):=by
   rw[show (2:Int)=((2:Nat):Int) by rfl,Bj (by omega) (by simp;omega)]
   rw[List.drop_succ_cons,List.drop_succ_cons,List.drop_zero,show 2+4*c.toNat-2=4*c.toNat by omega]
  rw[H9,AA,GH,AA,bi,epart,AA,E1 (by simp;omega),AA,Sl b3,AA]
  have hnl:(nums (t.take (4*c.toNat))).length=c.toNat:=by rw[E4,X18];omega
  generalize hm:nums (t.take (4*c.toNat))=m at *
  have hdl:(t.drop (4*c.toNat)).length=t.length-4*c.toNat:=X17
  have hsl:=U8 (l:=m) (by omega)
  have hsz:=Pq p (k.toNat==1) (m:=m) (by omega)
  have hsort :∀K:List Int->Option ρ,AC (τ:=List Int) (fun k50=>if ((k.toNat:Int)==1)=true then Option.bind (Lx m) fun v51=>Option.bind (Bz v51) fun v52=>k50 v52 else k50 m) K=K (if k.toNat=1 then srt m else m):=by
   intro K
   rw[AB]
   by_cases b1:k.toNat=1
   ·rw[if_pos (by simp[b1]),if_pos b1];exact Ry (by omega)
   rw[if_neg (by simp;omega),if_neg b1]
  rw[hsort]
  rcases b1 with b1 | b1
  ·have e:(k.toNat==1)=true:=by rw[b1];rfl
   have e1:((k.toNat:Int)==1)=true:=by rw[b1];rfl
   rw[e,MC] at hsz
   have ef :∀K:Bool->Option ρ,AC (τ:=Bool) (fun k54=>if (decide ((AD ((p.length:Int)-1)) ≥ 0))=true then if (cond true (!true) false)=true then Option.bind (geti p (AD ((p.length:Int)-1))) fun v55=>k54 (cond true (!v55.Set) false) else k54 false else k54 false) K=K false:=by
    intro K
    rw[AB]
    split<;>rfl
   rw[if_pos b1,e1,ef,AB,if_neg (by decide),AQ (by decide) (by simp;omega),AA,e,MC]
   exact hn (t.drop (4*c.toNat),p++[⟨true,srt m⟩],(List.map JAD.toD p).length+0,srt m) ⟨.inr ⟨p,true,rfl,by simp⟩,⟨by simp only[X11,X22,hdl];omega,by simp only[hdl];omega⟩,by simp only[hdl];omega⟩ (by simp only[hdl,X12];omega)
  have e:(k.toNat==1)=false:=by rw[b1];rfl
  have e1:((k.toNat:Int)==1)=false:=by rw[b1];rfl
  rw[e] at hsz
  have ef :∀K:Bool->Option ρ,AC (τ:=Bool) (fun k54=>if (decide ((AD ((p.length:Int)-1)) ≥ 0))=true then if (cond true (!false) false)=true then Option.bind (geti p (AD ((p.length:Int)-1))) fun v55=>k54 (cond true (!v55.Set) false) else k54 false else k54 false) K=K (match p.getLast? with | some s=>!s.Set | none=>false):=by
   intro K
   have hlast:=YA (p:=p) (by omega) K
   refine Eq.trans ?_ hlast
   rw[AB,AB]
   have:decide (AD ((p.length:Int)-1) ≥ 0)=decide ((p.length:Int) > 0):=by rw[AP (by omega),X28];simp;omega
   rw[this]
   split<;>rfl
  rw[if_neg (by omega),e1,ef,AB,e]
  rcases h1 with rfl | ⟨q,s,rfl,rfl⟩
  ·rw[if_neg (by simp),AQ (by decide) (by simp),AA,MH]
   rw[MH] at hsz
   exact hn (t.drop (4*c.toNat),[⟨false,m⟩],(List.map JAD.toD []).length+0,m) ⟨.inr ⟨[],false,rfl,rfl⟩,⟨by simp only[X22,hdl];simp only[X13] at h2;omega,by simp only[hdl];omega⟩,by simp only[hdl];omega⟩ (by simp only[hdl,X12];omega)
  simp only[X11,X22] at h2
  cases s
  ·rw[Kq] at hsz
   rw[if_pos (by simp),Us (by omega),LQ,AA]
   rw[Int.toNat_natCast]
   have ck:chk (q.length=q.length)=some ():=by unfold chk;rw[if_pos rfl]
   rw[ck,AA,AQ (by decide) (by omega),AA,AA,Xw,AA,Kq]
   exact hn (t.drop (4*c.toNat),q++[⟨false,l++m⟩],q.length,l++m) ⟨.inr ⟨q,false,rfl,rfl⟩,⟨by simp only[X11,X22,hdl];omega,by simp only[hdl];omega⟩,by simp only[hdl,X11];omega⟩ (by simp only[hdl,X12];omega)
  rw[HF] at hsz
  rw[if_neg (by simp),AQ (by decide) (by simp;omega),AA,HF]
  exact hn (t.drop (4*c.toNat),q++[⟨true,l⟩]++[⟨false,m⟩],(List.map JAD.toD (q++[⟨true,l⟩])).length+0,m) ⟨.inr ⟨q++[⟨true,l⟩],false,rfl,by simp⟩,⟨by simp only[X11,X22,hdl];omega,by simp only[hdl];omega⟩,by simp only[hdl];omega⟩ (by simp only[hdl,X12];omega)
end
end Go.AX.Q19
end
section
namespace Go.AX.Q19
open Go Go.AX
theorem LE {f:Int}(m:Int){ρ:Type}{A B C:Option ρ}(hf:f≠192) :
  (if ((AD ((BitVec.ofInt 64 m &&& BitVec.ofInt 64 192).toNat:Int)) != f)=true then A else if (f != 192)=true then if (cond false true (cond true ((AD ((BitVec.ofInt 64 m &&& BitVec.ofInt 64 32).toNat:Int)) != 0) false))=true then A else B else C)=if (bt m 192==f&&(f==192 || bt m 32==0))=true then B else A:=by
 have d1:(AD ((BitVec.ofInt 64 m &&& BitVec.ofInt 64 192).toNat:Int))=bt m 192:=rfl
 have d2:(AD ((BitVec.ofInt 64 m &&& BitVec.ofInt 64 32).toNat:Int))=bt m 32:=rfl
 rw[d1,d2]
 have h3:(f==192)=false:=by simpa using hf
 have h4:(f != 192)=true:=by simpa using hf
 rw[h3,h4]
 unfold bne
 cases (bt m 192==f)<;>cases (bt m 32==0)<;>rfl
theorem OP (m:Int){ρ:Type}{A B C:Option ρ} :
  (if ((AD ((BitVec.ofInt 64 m &&& BitVec.ofInt 64 192).toNat:Int)) != 192)=true then A else if ((192:Int) != 192)=true then C else B)=if (bt m 192==192&&((192:Int)==192 || bt m 32==0))=true then B else A:=by
 have d1:(AD ((BitVec.ofInt 64 m &&& BitVec.ofInt 64 192).toNat:Int))=bt m 192:=rfl
 rw[d1]
 unfold bne
 cases (bt m 192==192)<;>rfl
theorem VW {len n:Nat}{ρ:Type}(K:Bool->Option ρ)(hn:0<n)(hl:len<=1000000000) :
  AC (τ:=Bool) (fun q=>if ((len:Int)==0)=true then q true else if (cond false true ((Int.tmod (len:Int) (n:Int)) != 0))=true then q true else q (cond false true (decide ((AD (Int.tdiv (len:Int) (n:Int))) > 64)))) K=K (!decide (len≠0/\len%n=0/\len/n<=64)):=by
 have e0:((len:Int)==0)=decide (len=0):=by rw[X28];simp
 have e1:((Int.tmod (len:Int) (n:Int)) != 0)=!decide (len%n=0):=by
  rw[Int.tmod_eq_emod_of_nonneg (by omega),<- Int.natCast_emod,X28]
  simp only[bne_iff_ne,ne_eq,Bool.not_eq_true',decide_eq_false_iff_not]
  omega
 have hd:len/n<=len:=Nat.div_le_self _ _
 have e2:AD (Int.tdiv (len:Int) (n:Int))=((len/n:Nat):Int):=by
  rw[Int.tdiv_eq_ediv_of_nonneg (by omega),<- Int.natCast_ediv,AP (by generalize len/n=q at *;omega)]
 have e3:decide (((len/n:Nat):Int) > 64)=!decide (len/n<=64):=by
  rw[X28]
  simp only[decide_eq_true_eq,Bool.not_eq_true',decide_eq_false_iff_not]
  omega
 rw[AB,e0,e1,e2,e3]
 by_cases a1:len=0<;>by_cases a2:len%n=0<;>by_cases a3:len/n<=64<;>simp[a1,a2,a3]
theorem YM (t:Int){ρ:Type}(K:Bool->Option ρ):AC (τ:=Bool) (fun k142=>if (t==4)=true then k142 (t==4) else AC (τ:=Bool) (fun k143=>if (t==5)=true then k143 (t==5) else k143 (t==35)) fun v=>k142 v) K=K (t==4 || (t==5 || t==35)):=by
 rw[AB,AB]
 cases (t==4)<;>cases (t==5)<;>rfl
theorem Ui {d:List UInt8}{n:Nat}:((d.length:Int) != (n:Int))=!decide (d.length=n):=by rw[X28];simp;omega
theorem Oj {d:List UInt8}(h:d.length=4):part d 0 (if (4:Int)<(d.length:Int) then 4 else (d.length:Int))=some d:=by
 rw[if_neg (by omega),show (0:Int)=((0:Nat):Int) by rfl,Bj (by omega) (by omega)]
 simp
theorem MZ (d:List UInt8) :∃r,part d 0 (if (4:Int)<(d.length:Int) then 4 else (d.length:Int))=some r:=by
 have e :∀n:Nat,n<=d.length->part d 0 (n:Int)=some (d.take n):=fun n h=>Rf h
 split
 ·exact⟨_,e 4 (by omega)⟩
 exact⟨_,e d.length (by omega)⟩
section
variable {ρ:Type} {F:Option ρ} {next:Int×(List JAD)×Bool×UInt64×UInt64×Int×Int×Int×(List JAB)×(List JAF)->Option ρ} {x:JAA} {a:JAE}
theorem cX (h:x.Type_≠1/\x.Type_≠2/\x.Type_≠3/\x.Type_≠4/\x.Type_≠5/\x.Type_≠8/\x.Type_≠32/\x.Type_≠35)(e:fl x.Type_=0):Ee F next x (toR a)=match stepS a x with | none=>F | some a'=>next (toR a'):=by
 unfold Ee toR stepS
 dsimp only
 rw[AB,Bl,AA,e,if_pos (by decide),if_pos rfl]
theorem cF (h:x.Type_=1)(e:fl x.Type_=64):Ee F next x (toR a)=match stepS a x with | none=>F | some a'=>next (toR a'):=by
 have er :∀d,Fh a 1 d=(I9 d).map fun v=>{ a with Origin:=v }:=fun _=>rfl
 unfold Ee toR stepS Dj
 dsimp only
 rw[AB,Bl,AA,e,if_neg (by decide),AB,LE _ (by decide),if_neg (show ¬ (64:Int)=0 by decide),h,er]
 by_cases hr:(bt x.Flags 192==64&&((64:Int)==192 || bt x.Flags 32==0))=true
 rotate_left
 ·rw[if_neg hr,if_neg hr]
  rfl
 rw[if_pos hr,if_pos hr,AB,AB,AB]
 rw[if_pos (by decide)]
 rw[AB]
 unfold I9
 match hx:x.Data with
 | []=>rfl
 | [y]=>
  have hy:Db [y]=(y.toNat:Int):=by
   rw[Gw (by simp)]
   simp[val]
  have g0:geti [y] 0=some y:=GH
  rw[if_neg (by simp),g0,AA,AA,hy]
  by_cases hy2:y.toNat<=2
  ·rw[if_pos (show [y].length=1/\(y.toNat:Int)<=2 from ⟨rfl,by omega⟩)]
   have:decide ((y.toNat:Int) > 2)=false:=decide_eq_false (by omega)
   rw[this]
   rfl
  rw[if_neg (show ¬ ([y].length=1/\(y.toNat:Int)<=2) by omega)]
  have:decide ((y.toNat:Int) > 2)=true:=decide_eq_true (by omega)
  rw[this]
  rfl
 | y::z::t=>
  rw[if_pos (by simp;omega),if_neg (by simp)]
  rfl
theorem bp (hd:x.Data.length<=1000000)(h:x.Type_=2)(e:fl x.Type_=64):Ee F next x (toR a)=match stepS a x with | none=>F | some a'=>next (toR a'):=by
 have er :∀d,Fh a 2 d=(Ol d).map fun v=>{ a with Path:=v }:=fun _=>rfl
 unfold Ee toR stepS Dj
 dsimp only
 rw[AB,Bl,AA,e,if_neg (by decide),AB,LE _ (by decide),if_neg (show ¬ (64:Int)=0 by decide),h,er]
 by_cases hr:(bt x.Flags 192==64&&((64:Int)==192 || bt x.Flags 32==0))=true
 rotate_left
 ·rw[if_neg hr,if_neg hr]
  rfl
 rw[if_pos hr,if_pos hr,AB,AB,AB]
 rw[if_neg (by decide)]
 rw[if_pos (by decide)]
 rw[SK hd]
 unfold Ol
 cases hq:rdL x.Data [] with
 | none=>rfl
 | some p=>
  have hs:=VT hd hq
  dsimp only
  rw[F9 (by omega) (by omega),AA,AA,Option.bind_some,OK (by omega) (by omega)]
  cases GO p<;>rfl
theorem bW (h:x.Type_=3)(e:fl x.Type_=64):Ee F next x (toR a)=match stepS a x with | none=>F | some a'=>next (toR a'):=by
 have er :∀d,Fh a 3 d=(RI d).map fun v=>{ a with Next:=v }:=fun _=>rfl
 unfold Ee toR stepS Dj
 dsimp only
 rw[AB,Bl,AA,e,if_neg (by decide),AB,LE _ (by decide),if_neg (show ¬ (64:Int)=0 by decide),h,er]
 by_cases hr:(bt x.Flags 192==64&&((64:Int)==192 || bt x.Flags 32==0))=true
 rotate_left
 ·rw[if_neg hr,if_neg hr]
  rfl
 rw[if_pos hr,if_pos hr,AB,AB,AB]
 obtain⟨er',he⟩:=Tm x.Data
 rw[if_neg (by decide),if_neg (by decide),AB,if_pos (by decide)]
 have e4:=Ui (d:=x.Data) (n:=4)
 unfold RI
 by_cases h4:x.Data.length=4
 ·rw[if_neg (by rw[show ((4:Int))=((4:Nat):Int) by rfl,e4,decide_eq_true h4];decide),HY,he,AA,if_pos h4]
  rfl
 rw[if_pos (by rw[show ((4:Int))=((4:Nat):Int) by rfl,e4,decide_eq_false h4];rfl),if_neg h4]
 rfl
theorem ba (h:x.Type_=4)(e:fl x.Type_=128):Ee F next x (toR a)=match stepS a x with | none=>F | some a'=>next (toR a'):=by
 have er :∀d,Fh a 4 d=(rd4 d).map fun v=>{ a with MED:=v }:=fun _=>rfl
 unfold Ee toR stepS Dj
 dsimp only
 rw[AB,Bl,AA,e,if_neg (by decide),AB,LE _ (by decide),if_neg (show ¬ (128:Int)=0 by decide),h,er]
 by_cases hr:(bt x.Flags 192==128&&((128:Int)==192 || bt x.Flags 32==0))=true
 rotate_left
 ·rw[if_neg hr,if_neg hr]
  rfl
 rw[if_pos hr,if_pos hr,AB,AB,AB]
 rw[if_neg (by decide),if_neg (by decide),AB,if_neg (by decide)]
 obtain⟨q,hq⟩:=MZ x.Data
 simp only[AB]
 have e4:=Ui (d:=x.Data) (n:=4)
 have e4:((x.Data.length:Int) != 4)=!decide (x.Data.length=4):=e4
 rw[if_pos (by decide),if_pos (by decide)]
 unfold rd4
 by_cases h4:x.Data.length=4
 ·rw[Oj h4,AA,BP,AA,if_neg (by rw[e4,decide_eq_true h4];decide)]
  rw[if_pos h4]
  rfl
 rw[hq,AA,BP,AA,if_pos (by rw[e4,decide_eq_false h4];rfl),if_pos trivial,if_neg h4]
 rfl
theorem bc (h:x.Type_=5)(e:fl x.Type_=64):Ee F next x (toR a)=match stepS a x with | none=>F | some a'=>next (toR a'):=by
 have er :∀d,Fh a 5 d=(rd4 d).map fun v=>{ a with Pref:=v }:=fun _=>rfl
 unfold Ee toR stepS Dj
 dsimp only
 rw[AB,Bl,AA,e,if_neg (by decide),AB,LE _ (by decide),if_neg (show ¬ (64:Int)=0 by decide),h,er]
 by_cases hr:(bt x.Flags 192==64&&((64:Int)==192 || bt x.Flags 32==0))=true
 rotate_left
 ·rw[if_neg hr,if_neg hr]
  rfl
 rw[if_pos hr,if_pos hr,AB,AB,AB]
 rw[if_neg (by decide),if_neg (by decide),AB,if_neg (by decide)]
 obtain⟨q,hq⟩:=MZ x.Data
 simp only[AB]
 have e4:=Ui (d:=x.Data) (n:=4)
 have e4:((x.Data.length:Int) != 4)=!decide (x.Data.length=4):=e4
 rw[if_neg (by decide),if_pos (by decide),if_pos (by decide)]
 unfold rd4
 by_cases h4:x.Data.length=4
 ·rw[Oj h4,AA,BP,AA,if_neg (by rw[e4,decide_eq_true h4];decide)]
  rw[if_pos h4]
  rfl
 rw[hq,AA,BP,AA,if_pos (by rw[e4,decide_eq_false h4];rfl),if_pos trivial,if_neg h4]
 rfl
theorem bZ (hd:x.Data.length<=1000000)(hc:a.Communities=[])(h:x.Type_=8)(e:fl x.Type_=192):Ee F next x (toR a)=match stepS a x with | none=>F | some a'=>next (toR a'):=by
 have er :∀d,Fh a 8 d=(O1 d).map fun v=>{ a with Communities:=v }:=fun _=>rfl
 unfold Ee toR stepS Dj
 dsimp only
 rw[AB,Bl,AA,e,if_neg (by decide),AB,OP,if_neg (show ¬ (192:Int)=0 by decide),h,er]
 by_cases hr:(bt x.Flags 192==192&&((192:Int)==192 || bt x.Flags 32==0))=true
 rotate_left
 ·rw[if_neg hr,if_neg hr]
  rfl
 rw[if_pos hr,if_pos hr,AB,AB,AB]
 rw[if_neg (by decide),if_neg (by decide),AB,if_neg (by decide),YM,show ((8:Int)==4 || ((8:Int)==5 || (8:Int)==35))=false from rfl,AB,if_neg (by decide),AB]
 have ec:=fun K=>VW (ρ:=ρ) (len:=x.Data.length) (n:=4) K (by omega) (by omega)
 unfold O1
 rw[if_pos (by decide)]
 refine (ec _).trans ?_
 by_cases g:x.Data.length≠0/\x.Data.length%4=0/\x.Data.length/4<=64
 ·rw[decide_eq_true g,if_neg (by decide),if_pos g,hc,ej g.2.1 g.2.2]
  rfl
 rw[decide_eq_false g,if_neg g]
 rfl
theorem az (hd:x.Data.length<=1000000)(hc:a.JAF=[])(h:x.Type_=32)(e:fl x.Type_=192):Ee F next x (toR a)=match stepS a x with | none=>F | some a'=>next (toR a'):=by
 have er :∀d,Fh a 32 d=(Jk d).map fun v=>{ a with JAF:=v }:=fun _=>rfl
 unfold Ee toR stepS Dj
 dsimp only
 rw[AB,Bl,AA,e,if_neg (by decide),AB,OP,if_neg (show ¬ (192:Int)=0 by decide),h,er]
 by_cases hr:(bt x.Flags 192==192&&((192:Int)==192 || bt x.Flags 32==0))=true
 rotate_left
 ·rw[if_neg hr,if_neg hr]
  rfl
 rw[if_pos hr,if_pos hr,AB,AB,AB]
 rw[if_neg (by decide),if_neg (by decide),AB,if_neg (by decide),YM,show ((32:Int)==4 || ((32:Int)==5 || (32:Int)==35))=false from rfl,AB,if_neg (by decide),AB]
 rw[if_neg (by decide),AB]
 have ec:=fun K=>VW (ρ:=ρ) (len:=x.Data.length) (n:=12) K (by omega) (by omega)
 unfold Jk
 rw[if_pos (by decide)]
 refine (ec _).trans ?_
 by_cases g:x.Data.length≠0/\x.Data.length%12=0/\x.Data.length/12<=64
 ·rw[decide_eq_true g,if_neg (by decide),if_pos g,hc,c9 g.2.1 g.2.2]
  rfl
 rw[decide_eq_false g,if_neg g]
 rfl
theorem ai (h:x.Type_=35)(e:fl x.Type_=192):Ee F next x (toR a)=match stepS a x with | none=>F | some a'=>next (toR a'):=by
 have er :∀d,Fh a 35 d=(WI d).map fun v=>{ a with OTC:=v }:=fun _=>rfl
 unfold Ee toR stepS Dj
 dsimp only
 rw[AB,Bl,AA,e,if_neg (by decide),AB,OP,if_neg (show ¬ (192:Int)=0 by decide),h,er]
 by_cases hr:(bt x.Flags 192==192&&((192:Int)==192 || bt x.Flags 32==0))=true
 rotate_left
 ·rw[if_neg hr,if_neg hr]
  rfl
 rw[if_pos hr,if_pos hr,AB,AB,AB]
 rw[if_neg (by decide),if_neg (by decide),AB,if_neg (by decide)]
 obtain⟨q,hq⟩:=MZ x.Data
 simp only[AB]
 have e4:=Ui (d:=x.Data) (n:=4)
 have e4:((x.Data.length:Int) != 4)=!decide (x.Data.length=4):=e4
 rw[if_neg (by decide),if_neg (by decide),if_pos (by decide)]
 unfold WI
 by_cases h4:x.Data.length=4
 ·rw[Oj h4,AA,BP,AA,if_neg (by rw[e4,decide_eq_true h4];decide)]
  by_cases h0:Db x.Data=0
  ·rw[if_neg (show ¬ (x.Data.length=4/\Db x.Data≠0) from fun q=>q.2 h0),h0]
   rfl
  rw[if_pos (show x.Data.length=4/\Db x.Data≠0 from ⟨h4,h0⟩)]
  have h0':(Db x.Data==0)=false:=by simpa using h0
  rw[if_pos (by decide),h0']
  rfl
 rw[hq,AA,BP,AA,if_pos (by rw[e4,decide_eq_false h4];rfl),if_pos trivial,if_neg (show ¬ (x.Data.length=4/\Db x.Data≠0) from fun q=>h4 q.1)]
 rfl
end
end Go.AX.Q19
end
section
namespace Go.AX.Q19
open Go Go.AX
def CW (l:List JAA)(t:Int):Bool:=l.any fun y=>t==y.Type_
def A1 (l:List JAA):List JAA:=l.foldl (fun acc x=>if CW acc x.Type_ then acc else acc++[x]) []
theorem JZ (l:List JAA)(x:JAA):A1 (l++[x])=if CW (A1 l) x.Type_ then A1 l else A1 l++[x]:=by
 unfold A1
 rw[List.foldl_append]
 rfl
theorem Zl {l:List JAA}{t:Int}:CW l t=true ↔∃y∈l,y.Type_=t:=by
 unfold CW
 rw[List.any_eq_true]
 simp only[beq_iff_eq]
 exact⟨fun ⟨y,h1,h2⟩=>⟨y,h1,h2.symm⟩,fun ⟨y,h1,h2⟩=>⟨y,h1,h2.symm⟩⟩
theorem KD (l m:List JAA)(t:Int):CW (l++m) t=(CW l t || CW m t):=by unfold CW;rw[List.any_append]
def Yz (l:List JAA):Prop:=l.Pairwise fun a b=>a.Type_≠b.Type_
theorem DG (l:List JAA):Yz (A1 l)/\(∀x∈A1 l,x∈l)/\(∀t,CW (A1 l) t=CW l t)/\(A1 l).length<=l.length:=by
 rw[<- List.reverse_reverse l]
 generalize l.reverse=m
 induction m with
 | nil=>exact⟨.nil,by simp[A1],fun t=>rfl,Nat.le_refl _⟩
 | cons x t ih=>
  obtain⟨h1,h2,h3,h4⟩:=ih
  rw[List.reverse_cons,JZ]
  by_cases hx:CW (A1 t.reverse) x.Type_=true
  ·rw[if_pos hx]
   refine⟨h1,fun y hy=>List.mem_append_left _ (h2 y hy),fun u=>?_,by simp only[X11];omega⟩
   rw[h3 u,KD]
   by_cases hu:u=x.Type_
   ·subst hu
    rw[<- h3,hx];rfl
   have:CW [x] u=false:=by unfold CW;simp[hu]
   rw[this,Bool.or_false]
  rw[if_neg hx]
  refine⟨List.pairwise_append.2 ⟨h1,by simp,fun a ha b hb e=>?_⟩,fun y hy=>?_,fun u=>by rw[KD,KD,h3],by simp only[X11,X22];omega⟩
  ·rw[X14] at hb
   subst hb
   exact hx (Zl.2 ⟨a,ha,e⟩)
  rcases X23.1 hy with hy | hy
  ·exact List.mem_append_left _ (h2 y hy)
  exact List.mem_append_right _ hy
theorem cP {l:List JAA}(hl:l.length<=1000000):Dc l=some (A1 l):=by
 have:Ok (Dc l) fun r=>r=A1 l:=by
  unfold Dc
  refine .join (fun r=>r=A1 l) (fun k hk=>?_) fun r hr=>.ret hr
  refine .forX (fun i s=>s.2=A1 (l.take i)/\∀t,(BV s.1 t).getD false=CW s.2 t) ⟨rfl,fun t=>rfl⟩ (fun s hs=>hk _ (by rw[hs.1,List.take_length])) ?_
  rintro next x i ⟨m,o⟩ hx ⟨h1,h2⟩ hn
  dsimp only at h1 h2
  have hil:=(X16.1 hx).1
  have hlen:=(DG (l.take i)).2.2.2
  rw[<- h1,X18] at hlen
  have e:l.take (i+1)=l.take i++[x]:=by rw[List.take_add_one,hx];rfl
  have hs:=JZ (l.take i) x
  rw[<- e,<- h1] at hs
  refine .bind (P:=fun v=>v=CW o x.Type_) ⟨_,rfl,h2 _⟩ fun v hv=>?_
  subst hv
  refine .join (fun r=>r=A1 (l.take (i+1))/\∀t,CW r t=(t==x.Type_ || CW o t)) (fun k hk=>.ite (fun hc=>.bind (Ok.apnd (by decide) (by simp;omega)) fun r hr=>hk r ?_) fun hc=>hk o ?_) fun r hr=>hn _ ⟨hr.1,fun t=>?_⟩
  ·have hc:CW o x.Type_=false:=by simpa using hc
   rw[hc,if_neg (by decide)] at hs
   rw[hs,hr]
   refine⟨rfl,fun t=>?_⟩
   rw[KD,Bool.or_comm]
   unfold CW;simp
  ·have hc:CW o x.Type_=true:=by simpa using hc
   rw[hc,if_pos rfl] at hs
   rw[hs]
   refine⟨rfl,fun t=>?_⟩
   by_cases ht:t=x.Type_
   ·subst ht;rw[hc];simp
   have:(t==x.Type_)=false:=by simpa using ht
   rw[this];rfl
  dsimp only
  rw[hr.2,mget_mset,<- h2]
  cases (t==x.Type_)<;>rfl
 obtain⟨r,h1,h2⟩:=this
 rw[h1,h2]
theorem cb {l:List JAA}(hl:l.length<=1000000):F5 l=some (A1 l):=by
 have:Ok (F5 l) fun r=>r=A1 l:=by
  unfold F5
  refine .join (fun r=>r=A1 l) (fun k hk=>?_) fun r hr=>.ret hr
  refine .forX (fun i s=>s.1=A1 (l.take i)/\∀t,(BV s.2 t).getD false=CW s.1 t) ⟨rfl,fun t=>rfl⟩ (fun s hs=>hk _ (by rw[hs.1,List.take_length])) ?_
  rintro next x i ⟨o,m⟩ hx ⟨h1,h2⟩ hn
  dsimp only at h1 h2
  have hil:=(X16.1 hx).1
  have hlen:=(DG (l.take i)).2.2.2
  rw[<- h1,X18] at hlen
  have e:l.take (i+1)=l.take i++[x]:=by rw[List.take_add_one,hx];rfl
  have hs:=JZ (l.take i) x
  rw[<- e,<- h1] at hs
  refine .bind (P:=fun v=>v=CW o x.Type_) ⟨_,rfl,h2 _⟩ fun v hv=>?_
  subst hv
  refine .join (fun r=>r=A1 (l.take (i+1))/\∀t,CW r t=(t==x.Type_ || CW o t)) (fun k hk=>.ite (fun hc=>.bind (Ok.apnd (by decide) (by simp;omega)) fun r hr=>hk r ?_) fun hc=>hk o ?_) fun r hr=>hn _ ⟨hr.1,fun t=>?_⟩
  ·have hc:CW o x.Type_=false:=by simpa using hc
   rw[hc,if_neg (by decide)] at hs
   rw[hs,hr]
   refine⟨rfl,fun t=>?_⟩
   rw[KD,Bool.or_comm]
   unfold CW;simp
  ·have hc:CW o x.Type_=true:=by simpa using hc
   rw[hc,if_pos rfl] at hs
   rw[hs]
   refine⟨rfl,fun t=>?_⟩
   by_cases ht:t=x.Type_
   ·subst ht;rw[hc];simp
   have:(t==x.Type_)=false:=by simpa using ht
   rw[this];rfl
  dsimp only
  rw[hr.2,mget_mset,<- h2]
  cases (t==x.Type_)<;>rfl
 obtain⟨r,h1,h2⟩:=this
 rw[h1,h2]
def KY:JAE->List JAA->Option JAE
 | a,[]=>some a
 | a,x::t=>(stepS a x).bind fun a'=>KY a' t
structure Fit (l:List JAA)(a:JAE):Prop where
 d:Yz l
 z :∀x∈l,x.Data.length<=1000000
 p :∀x∈l,x.Type_=2->a.Path=[]
 c :∀x∈l,x.Type_=8->a.Communities=[]
 l :∀x∈l,x.Type_=32->a.JAF=[]
theorem WW {a a':JAE}{x:JAA}(h:stepS a x=some a'):(x.Type_≠2->a'.Path=a.Path)/\(x.Type_≠8->a'.Communities=a.Communities)/\(x.Type_≠32->a'.JAF=a.JAF)/\a'.Other=a.Other:=by
 unfold stepS at h
 split at h
 ·obtain rfl:=X25 h
  exact⟨fun _=>rfl,fun _=>rfl,fun _=>rfl,rfl⟩
 split at h
 ·unfold Fh at h
  rcases GK x.Type_ with ⟨e,_⟩|⟨e,_⟩|⟨e,_⟩|⟨e,_⟩|⟨e,_⟩|⟨e,_⟩|⟨e,_⟩|⟨e,_⟩|⟨e1,e2,e3,e4,e5,e6,e7,e8,_⟩
  iterate 8
   ·rw[e] at h ⊢
    obtain⟨v,_,rfl⟩:=Option.map_eq_some_iff.1 h
    exact⟨fun q=>by first | rfl | exact absurd rfl q,fun q=>by first | rfl | exact absurd rfl q,fun q=>by first | rfl | exact absurd rfl q,rfl⟩
  rw[if_neg e1,if_neg e2,if_neg e3,if_neg e4,if_neg e5,if_neg e6,if_neg e7,if_neg e8] at h
  obtain rfl:=X25 h
  exact⟨fun _=>rfl,fun _=>rfl,fun _=>rfl,rfl⟩
 simp at h
theorem Fit.next {x:JAA}{t:List JAA}{a a':JAE}(f:Fit (x::t) a)(h:stepS a x=some a'):Fit t a':=by
 obtain⟨k1,k2,k3,_⟩:=WW h
 obtain⟨d1,d2⟩:=List.pairwise_cons.1 f.d
 exact⟨d2,fun y hy=>f.z y (X19 _ hy),fun y hy e=>(k1 (e ▸ d1 y hy)).trans (f.p y (X19 _ hy) e),
  fun y hy e=>(k2 (e ▸ d1 y hy)).trans (f.c y (X19 _ hy) e),fun y hy e=>(k3 (e ▸ d1 y hy)).trans (f.l y (X19 _ hy) e)⟩
theorem aS {ρ:Type}{F:Option ρ}{next:Int×Bool×UInt64×UInt64×Int×Int×Int×(List JAD)×(List JAB)×(List JAF)->Option ρ}{x:JAA}{a:JAE}{t:List JAA}(f:Fit (x::t) a):Ed F next x (toP a)=match stepS a x with | none=>F | some a'=>next (toP a'):=by
 have hd:=f.z x (by simp)
 rcases GK x.Type_ with ⟨h,e⟩|⟨h,e⟩|⟨h,e⟩|⟨h,e⟩|⟨h,e⟩|⟨h,e⟩|⟨h,e⟩|⟨h,e⟩|⟨h1,h2,h3,h4,h5,h6,h7,h8,e⟩
 ·exact bj h e
 ·exact bm hd h e (f.p x (by simp) h)
 ·exact bR h e
 ·exact bM h e
 ·exact bu h e
 ·exact bH hd h e
 ·exact aJ hd h e
 ·exact Zy h e
 exact cN ⟨h1,h2,h3,h4,h5,h6,h7,h8⟩ e
theorem Zd {ρ:Type}{F:Option ρ}{next:Int×(List JAD)×Bool×UInt64×UInt64×Int×Int×Int×(List JAB)×(List JAF)->Option ρ}{x:JAA}{a:JAE}{t:List JAA}(f:Fit (x::t) a):Ee F next x (toR a)=match stepS a x with | none=>F | some a'=>next (toR a'):=by
 have hd:=f.z x (by simp)
 rcases GK x.Type_ with ⟨h,e⟩|⟨h,e⟩|⟨h,e⟩|⟨h,e⟩|⟨h,e⟩|⟨h,e⟩|⟨h,e⟩|⟨h,e⟩|⟨h1,h2,h3,h4,h5,h6,h7,h8,e⟩
 ·exact cF h e
 ·exact bp hd h e
 ·exact bW h e
 ·exact ba h e
 ·exact bc h e
 ·exact bZ hd (f.c x (by simp) h) h e
 ·exact az hd (f.l x (by simp) h) h e
 ·exact ai h e
 exact cX ⟨h1,h2,h3,h4,h5,h6,h7,h8⟩ e
theorem cf {ρ:Type}{F:Option ρ}{K:Int×Bool×UInt64×UInt64×Int×Int×Int×(List JAD)×(List JAB)×(List JAF)->Option ρ} :∀(l:List JAA) (i:Nat) (a:JAE),Fit l a->Ak K (fun next x _ s=>Ed F next x s) l i (toP a)=match KY a l with | none=>F | some a'=>K (toP a')
 | [],_,_,_=>rfl
 | x::t,i,a,f=>by
  show Ed F (fun s=>Ak K (fun next x _ s=>Ed F next x s) t (i+1) s) x (toP a)=_
  rw[aS f]
  unfold KY
  cases h:stepS a x with
  | none=>rfl
  | some a'=>exact cf t (i+1) a' (f.next h)
theorem cd {ρ:Type}{F:Option ρ}{K:Int×(List JAD)×Bool×UInt64×UInt64×Int×Int×Int×(List JAB)×(List JAF)->Option ρ} :∀(l:List JAA) (i:Nat) (a:JAE),Fit l a->Ak K (fun next x _ s=>Ee F next x s) l i (toR a)=match KY a l with | none=>F | some a'=>K (toR a')
 | [],_,_,_=>rfl
 | x::t,i,a,f=>by
  show Ee F (fun s=>Ak K (fun next x _ s=>Ee F next x s) t (i+1) s) x (toR a)=_
  rw[Zd f]
  unfold KY
  cases h:stepS a x with
  | none=>rfl
  | some a'=>exact cd t (i+1) a' (f.next h)
def I7 (x:JAA):Bool:=unk x.Type_&&(decide (1<=x.Type_/\x.Type_<=255)&&(bt x.Flags 64 != 0&&decide (x.Data.length<=255)))
def conv (x:JAA):JAA:=⟨224,x.Type_,x.Data⟩
def FK (l:List JAA):List JAA:=(List.range' 1 255).flatMap fun (k:Nat)=>l.flatMap fun x=>if (x.Type_==(k:Int)&&I7 x)=true then [conv x] else []
def I2 (x:JAA):List Int:=[x.Type_]
theorem I4 (a b:JAA):(I2 a).length=(I2 b).length:=rfl
theorem Ym {l:List JAA}{y:JAA}:y∈FK l ↔∃x∈l,I7 x=true/\y=conv x:=by
 unfold FK
 simp only[List.mem_flatMap,List.mem_range'_1]
 constructor
 ·rintro⟨k,hk,x,hx,h⟩
  split at h
  ·rename_i hc
   simp only[X27] at hc
   exact⟨x,hx,hc.2,by simpa using h⟩
  simp at h
 rintro⟨x,hx,hk,rfl⟩
 have hk':=hk
 simp only[I7,X27,decide_eq_true_eq] at hk'
 refine⟨x.Type_.toNat,by omega,x,hx,?_⟩
 rw[if_pos]
 ·simp
 rw[hk,Bool.and_true,beq_iff_eq];omega
theorem OS {α:Type}{R:α->α->Prop}{c:Bool}{x:α}:(if c=true then [x] else []).Pairwise R:=by
 cases c
 ·exact .nil
 exact List.pairwise_singleton _ _
theorem Uu {l:List JAA}(h:Yz l):(FK l).Pairwise fun a b=>ltK I2 a b=true:=by
 unfold FK
 rw[List.pairwise_flatMap]
 have hm :∀(k:Nat) (x y:JAA),y∈(if (x.Type_==(k:Int)&&I7 x)=true then [conv x] else [])->y.Type_=k/\x.Type_=k:=by
  intro k x y hy
  split at hy
  ·rename_i hc
   simp only[X27,beq_iff_eq] at hc
   rw[X14] at hy
   subst hy
   exact⟨hc.1,hc.1⟩
  simp at hy
 constructor
 ·intro k _
  rw[List.pairwise_flatMap]
  refine⟨fun x _=>OS,h.imp fun {a b} hab x hx y hy=>?_⟩
  exact absurd ((hm k a x hx).2.trans (hm k b y hy).2.symm) hab
 refine (List.pairwise_lt_range' (s:=1) (n:=255)).imp fun {a b} hab x hx y hy=>?_
 obtain⟨x1,_,hx1⟩:=List.mem_flatMap.1 hx
 obtain⟨y1,_,hy1⟩:=List.mem_flatMap.1 hy
 have e1:=(hm a x1 x hx1).1
 have e2:=(hm b y1 y hy1).1
 unfold ltK I2
 rw[decide_eq_true_eq,TE,if_pos (by omega)]
 decide
def Sm (l:List JAA):Prop:=l.length<=1000000/\∀x∈l,x.Data.length<=1000000
def Nz (x:JAA):Bool:=unk x.Type_&&bt x.Flags 128==0
def zA:JAE:=⟨0,[],(⟨false,(0:UInt64),(0:UInt64)⟩:Addr),0,0,0,[],[],[]⟩
def eA:JAE:=⟨(-1),[],(⟨false,(0:UInt64),(0:UInt64)⟩:Addr),(-1),(-1),(-1),[],[],[]⟩
def rdS (l:List JAA):JAE×Int:=
 if (A1 l).any Nz=true then (zA,12) else match KY eA (A1 l) with
 | none=>(zA,13)
 | some a=>if (FK (A1 l)).length > 8 then (zA,3) else ({ a with Other:=FK (A1 l) },0)
theorem Zi (x:JAA):Df x=some (Nz x):=by
 unfold Df Nz
 rw[AB,G3,AA]
 show (if unk x.Type_=true then some (cond true (bt x.Flags 128==0) false) else some false)=_
 cases unk x.Type_<;>rfl
theorem V8 (l:List JAA):Aj l=some (l.any Nz):=
 cm (f:=Df) (q:=Nz) fun x _=>Zi x
theorem TC {l:List JAA}(h:Sm l):Fit (A1 l) eA:=
 ⟨(DG l).1,fun x hx=>h.2 x ((DG l).2.1 x hx),fun _ _ _=>rfl,fun _ _ _=>rfl,fun _ _ _=>rfl⟩
def NR (x:JAA):List JAA:=if I7 x=true then [conv x] else []
theorem VS (x:JAA):(NR x).length<=1:=by unfold NR;split<;>simp
theorem I3 {α β:Type}{g:α->List β}(hg :∀x,(g x).length<=1) :∀l:List α,(l.flatMap g).length<=l.length
 | []=>by simp
 | x::t=>by
  rw[List.flatMap_cons,X11,X12]
  have:=I3 hg t
  have:=hg x
  omega
theorem bV {l:List JAA}{y:JAA}:y∈l.flatMap NR ↔∃x∈l,I7 x=true/\y=conv x:=by
 rw[List.mem_flatMap]
 constructor
 ·rintro⟨x,hx,h⟩
  unfold NR at h
  split at h
  ·exact⟨x,hx,‹_›,by simpa using h⟩
  simp at h
 rintro⟨x,hx,hk,rfl⟩
 refine⟨x,hx,?_⟩
 unfold NR
 rw[if_pos hk];simp
theorem aF {l:List JAA}(h:Yz l):(l.flatMap NR).Pairwise fun a b=>I2 a≠I2 b:=by
 rw[List.pairwise_flatMap]
 refine⟨fun x _=>OS,h.imp fun {a b} hab x hx y hy e=>?_⟩
 unfold NR at hx hy
 split at hx
 ·split at hy
  ·rw[X14] at hx hy
   subst hx hy
   exact hab (by simpa[I2,conv] using e)
  simp at hy
 simp at hx
theorem VO (a b:JAA):Di a b=some (Fb (I2 a) (I2 b)):=by
 unfold Di I2
 rw[LU,AA]
 unfold ax Fb Fb
 rfl
theorem Tf {l:List JAA}(h:Yz l)(hl:l.length<=1000000):Ez Di (l.flatMap NR)=some (FK l):=by
 have hlen:=I3 VS l
 obtain⟨r,h1,h2,h3⟩:=QG I4 VO (l:=l.flatMap NR) (by omega)
 rw[h1]
 congr 1
 refine Xq I4 (S4 I4 h3 ?_) (Uu h) fun x=>?_
 ·exact (h2.pairwise_iff fun h e=>h e.symm).2 (aF h)
 rw[h2.mem_iff,bV,Ym]
theorem ZA {l:List JAA}(h:Yz l)(hl:l.length<=1000000):(FK l).length=(l.flatMap NR).length:=by
 exact (GP (Tf h hl))
theorem ff {l:List JAA}(hl:l.length<=1000000)(hz :∀x∈l,x.Data.length<=1000000){ρ:Type}{K:List JAA->Option ρ} :
  Ak (σ:=List JAA) K (fun next x _ v=>
   AC (τ:=Bool) (fun k198=>
      Option.bind (Bf x.Type_) fun v199=>
      if v199=true then
       Option.bind (BA x.Type_ 1 255) fun v200=>
       if (cond true v200 false)=true then
        if (cond true ((AD ((BitVec.ofInt 64 x.Flags &&& BitVec.ofInt 64 64).toNat:Int)) != 0) false)=true then
         k198 (cond true (decide ((x.Data.length:Int)<=255)) false)
        else
         k198 false
       else
        k198 false
      else
       k198 false
     ) fun v201=>
     AC (τ:=(List JAA)) (fun k202=>
      if v201=true then
       Option.bind (By x.Data) fun v203=>
       Option.bind (apnd (α:=JAA) 40 v ([(⟨224,x.Type_,v203⟩:JAA)]:List JAA)) fun v204=>
       k202 v204
      else
       k202 v
     ) fun v205=>
     next v205) l 0 []=K (l.flatMap NR):=by
 have hlen:=I3 VS l
 refine (W3 (g:=NR) (N:=1000000) (by simp only[X13];omega) fun next x i v hx hv=>?_).trans (by rw[List.nil_append])
 have hc :∀k:Bool->Option ρ,AC (τ:=Bool) (fun k198=>
      Option.bind (Bf x.Type_) fun v199=>
      if v199=true then
       Option.bind (BA x.Type_ 1 255) fun v200=>
       if (cond true v200 false)=true then
        if (cond true ((AD ((BitVec.ofInt 64 x.Flags &&& BitVec.ofInt 64 64).toNat:Int)) != 0) false)=true then
         k198 (cond true (decide ((x.Data.length:Int)<=255)) false)
        else
         k198 false
       else
        k198 false
      else
       k198 false
     ) k=k (I7 x):=by
  intro k
  unfold I7
  have d1:(AD ((BitVec.ofInt 64 x.Flags &&& BitVec.ofInt 64 64).toNat:Int))=bt x.Flags 64:=rfl
  have d2:decide ((x.Data.length:Int)<=255)=decide (x.Data.length<=255):=by rw[X28];simp;omega
  have d3:decide (1<=x.Type_/\x.Type_<=255)=(decide (1<=x.Type_)&&decide (x.Type_<=255)):=by rw[X28];simp
  rw[AB,G3,AA,Yp,AA,d1,d2,d3]
  cases unk x.Type_<;>cases decide (1<=x.Type_)<;>cases decide (x.Type_<=255)<;>cases (bt x.Flags 64 != 0)<;>cases decide (x.Data.length<=255)<;>rfl
 rw[hc,AB]
 unfold NR at hv ⊢
 by_cases hk:I7 x=true
 ·rw[if_pos hk] at hv
  have:=hz x hx
  simp only[X22] at hv
  rw[if_pos hk,if_pos hk]
  unfold By
  rw[AQ (by decide) (by simp;omega),AA,AA,List.nil_append,AQ (by decide) (by simp;omega),AA]
  rfl
 rw[if_neg hk,if_neg hk,List.append_nil]
theorem VX {l:List JAA}(h:Sm l):EE l=some (rdS l):=by
 obtain⟨h1,h2⟩:=h
 have hlen:=(DG l).2.2.2
 have hm:=(DG l).2.1
 unfold EE rdS
 rw[cP h1,AA,V8,AA]
 by_cases hb:(A1 l).any Nz=true
 ·rw[if_pos hb,if_pos hb];rfl
 rw[if_neg hb,if_neg hb,AB,AB]
 rw[AB]
 refine (cf (A1 l) 0 eA (TC ⟨h1,h2⟩)).trans ?_
 cases hf:KY eA (A1 l) with
 | none=>rfl
 | some a=>
  show (if (!true)=true then _ else AC _ _)=_
  rw[if_neg (by decide),AB]
  refine (ff (l:=A1 l) (by omega) fun x hx=>h2 x (hm x hx)).trans ?_
  have hk:=ZA (l:=A1 l) (DG l).1 (by omega)
  show (if decide (((List.flatMap NR (A1 l)).length:Int) > 8)=true then _ else _)=_
  by_cases h8:(FK (A1 l)).length > 8
  ·rw[if_pos (by simp only[decide_eq_true_eq];omega)]
   show _=some (if (FK (A1 l)).length > 8 then _ else _)
   rw[if_pos h8];rfl
  rw[if_neg (by simp only[decide_eq_true_eq];omega),Tf (DG l).1 (by omega),AA]
  show _=some (if (FK (A1 l)).length > 8 then _ else _)
  rw[if_neg h8]
def SX (k:Int)(x:JAA):List JAA:=if (x.Type_==k&&I7 x)=true then [conv x] else []
theorem ZN (k:Int)(x:JAA):(SX k x).length<=1:=by unfold SX;split<;>simp
theorem fD {l:List JAA}(hl:l.length<=1000000)(hz :∀x∈l,x.Data.length<=1000000){K:List JAA->Option (JAE×Int)} :
  AC (τ:=(List JAA)) (fun k264=>
  Ao (σ:=Int×(List JAA)) (fun next265 p=>match p with
   | (v266,v267)=>if (decide (v266<256))=true then
    AC (τ:=(List JAA)) (fun k268=>
     AC (τ:=(List JAA)) (fun k269=>
      Ak (σ:=(List JAA)) (fun v270=>
       k269 v270
      ) (fun next271 (x272:JAA) i273 v270=>
       AC (τ:=Bool) (fun k274=>
        if (x272.Type_==v266)=true then
         Option.bind (BY v266) fun v275=>
         if (cond true v275 false)=true then
          if (cond true ((AD ((BitVec.ofInt 64 x272.Flags &&& BitVec.ofInt 64 64).toNat:Int)) != 0) false)=true then
           k274 (cond true (decide ((x272.Data.length:Int)<=255)) false)
          else
           k274 false
         else
          k274 false
        else
         k274 false
       ) fun v276=>
       AC (τ:=(List JAA)) (fun k277=>
        if v276=true then
         Option.bind (apnd (α:=UInt8) 1 [] x272.Data) fun _=>
         Option.bind (apnd (α:=JAA) 40 v270 ([(⟨224,v266,x272.Data⟩:JAA)]:List JAA)) fun v278=>
         k277 v278
        else
         k277 v270
       ) fun v279=>
       next271 v279
      ) l 0 v267
     ) fun v280=>
     k268 v280
    ) fun v281=>
    next265 ((AD (v266+1)),v281)
   else
    k264 v267
  ) fuel (1,[])
 ) K=K (FK l):=by
 rw[AB]
 refine (B9 (fun s:Int×List JAA=>∃k:Nat,s.1=k/\1<=k/\k<=256/\s.2.length<=k*1000000) (fun s=>(256-s.1).toNat) (fun s=>K (s.2++(List.range' s.1.toNat (256-s.1.toNat)).flatMap fun (k:Nat)=>l.flatMap (SX k))) ?_ fuel (1,[]) ⟨1,rfl,by omega,by omega,by simp⟩ (BS (by simp only;omega))).trans rfl
 rintro next ⟨kk,v⟩ ⟨k,rfl,hk1,hk2,hv⟩ hn
 dsimp only at hv ⊢
 by_cases hk:k<256
 ·rw[if_pos (by simp only[decide_eq_true_eq];omega),AB,AB]
  have hlen:=I3 (ZN k) l
  refine (W3 (g:=SX k) (N:=(k+1)*1000000) (by omega) fun next2 x i w hx hw=>?_).trans ?_
  ·have hc :∀q:Bool->Option (JAE×Int),AC (τ:=Bool) (fun k274=>
        if (x.Type_==(k:Int))=true then
         Option.bind (BY k) fun v275=>
         if (cond true v275 false)=true then
          if (cond true ((AD ((BitVec.ofInt 64 x.Flags &&& BitVec.ofInt 64 64).toNat:Int)) != 0) false)=true then
           k274 (cond true (decide ((x.Data.length:Int)<=255)) false)
          else
           k274 false
         else
          k274 false
        else
         k274 false
       ) q=q (x.Type_==(k:Int)&&I7 x):=by
    intro q
    unfold I7
    have d1:(AD ((BitVec.ofInt 64 x.Flags &&& BitVec.ofInt 64 64).toNat:Int))=bt x.Flags 64:=rfl
    have d2:decide ((x.Data.length:Int)<=255)=decide (x.Data.length<=255):=by rw[X28];simp;omega
    rw[AB,FC,AA,d1,d2]
    by_cases ht:x.Type_=(k:Int)
    ·have d3:decide (1<=x.Type_/\x.Type_<=255)=true:=decide_eq_true (by omega)
     have d4:(x.Type_==(k:Int))=true:=by simp[ht]
     rw[d3,d4,ht]
     cases unk (k:Int)<;>cases (bt x.Flags 64 != 0)<;>cases decide (x.Data.length<=255)<;>rfl
    have d4:(x.Type_==(k:Int))=false:=by simpa using ht
    rw[d4]
    rfl
   rw[hc,AB]
   unfold SX at hw ⊢
   by_cases hk3:(x.Type_==(k:Int)&&I7 x)=true
   ·rw[if_pos hk3] at hw
    have:=hz x hx
    simp only[X22] at hw
    rw[if_pos hk3,if_pos hk3,AQ (by decide) (by simp;omega),AA,AQ (by decide) (by simp;omega),AA]
    simp only[X27,beq_iff_eq] at hk3
    unfold conv
    rw[hk3.1]
   rw[if_neg hk3,if_neg hk3,List.append_nil]
  show next (AD ((k:Int)+1),v++List.flatMap (SX k) l)=_
  rw[AP (by omega),hn _ ⟨k+1,by simp,by omega,by omega,by simp only[X11];omega⟩ (by simp only;omega)]
  have e1:((k:Int)+1).toNat=k+1:=by omega
  have e2:256-k=(256-(k+1))+1:=by omega
  simp only[e1,Int.toNat_natCast]
  rw[e2,List.range'_succ,List.flatMap_cons,List.append_assoc]
 rw[if_neg (by simp only[decide_eq_true_eq];omega)]
 have:256-(k:Int).toNat=0:=by omega
 rw[this]
 simp
theorem badR {l:List JAA}{ρ:Type}{K:Unit->Option ρ}{r:Option ρ}:Ak (σ:=Unit) K (fun next x _ _=>
   AC (τ:=Bool) (fun k6=>
    Option.bind (BY x.Type_) fun v7=>
    if v7=true then
     k6 (cond true ((AD ((BitVec.ofInt 64 x.Flags &&& BitVec.ofInt 64 128).toNat:Int))==0) false)
    else
     k6 false
   ) fun v8=>
   if v8=true then r else next ()) l 0 ()=if l.any Nz=true then r else K ():=by
 refine (aA (g:=fun x=>!Nz x) (r0:=r) fun next x i _=>?_).trans ?_
 ·unfold Nz
  have d1:(AD ((BitVec.ofInt 64 x.Flags &&& BitVec.ofInt 64 128).toNat:Int))=bt x.Flags 128:=rfl
  rw[AB,FC,AA,d1]
  cases unk x.Type_<;>cases (bt x.Flags 128==0)<;>rfl
 have:(l.all fun x=>!Nz x)=!l.any Nz:=by
  induction l with
  | nil=>rfl
  | cons x t ih=>rw[List.all_cons,List.any_cons,ih];cases Nz x<;>rfl
 rw[this]
 cases l.any Nz<;>rfl
theorem Zk {l:List JAA}(h:Sm l):H5 l=some (rdS l):=by
 obtain⟨h1,h2⟩:=h
 have hlen:=(DG l).2.2.2
 have hm:=(DG l).2.1
 unfold H5 rdS
 rw[cb h1,AA,AB]
 refine badR.trans ?_
 by_cases hb:(A1 l).any Nz=true
 ·rw[if_pos hb,if_pos hb];rfl
 rw[if_neg hb,if_neg hb,AB,AB]
 refine (cd (A1 l) 0 eA (TC ⟨h1,h2⟩)).trans ?_
 cases hf:KY eA (A1 l) with
 | none=>rfl
 | some a=>
  show AC _ _=_
  refine (fD (l:=A1 l) (by omega) fun x hx=>h2 x (hm x hx)).trans ?_
  show (if decide (((FK (A1 l)).length:Int) > 8)=true then _ else _)=_
  by_cases h8:(FK (A1 l)).length > 8
  ·rw[if_pos (by simp only[decide_eq_true_eq];omega)]
   show _=some (if (FK (A1 l)).length > 8 then _ else _)
   rw[if_pos h8];rfl
  rw[if_neg (by simp only[decide_eq_true_eq];omega)]
  show _=some (if (FK (A1 l)).length > 8 then _ else _)
  rw[if_neg h8]
theorem Wc {d:List UInt8}(h:d.length=1):0<=Db d:=by
 rw[Gw (by omega)];omega
theorem UI {a a':JAE}{x:JAA}(h:stepS a x=some a'):(x.Type_≠1->a'.Origin=a.Origin)/\(x.Type_=1->0<=a'.Origin):=by
 unfold stepS at h
 split at h
 ·rename_i hf
  obtain rfl:=X25 h
  refine⟨fun _=>rfl,fun q=>?_⟩
  rw[q] at hf
  exact absurd hf (by decide)
 split at h
 ·unfold Fh at h
  rcases GK x.Type_ with ⟨e,_⟩|⟨e,_⟩|⟨e,_⟩|⟨e,_⟩|⟨e,_⟩|⟨e,_⟩|⟨e,_⟩|⟨e,_⟩|⟨e1,e2,e3,e4,e5,e6,e7,e8,_⟩
  ·rw[e] at h ⊢
   obtain⟨v,hv,rfl⟩:=Option.map_eq_some_iff.1 h
   refine⟨fun q=>absurd rfl q,fun _=>?_⟩
   unfold I9 at hv
   split at hv
   ·rename_i hc
    obtain rfl:=X25 hv
    exact Wc hc.1
   cases hv
  iterate 7
   ·rw[e] at h ⊢
    obtain⟨v,_,rfl⟩:=Option.map_eq_some_iff.1 h
    exact⟨fun q=>rfl,fun q=>absurd q (by decide)⟩
  rw[if_neg e1,if_neg e2,if_neg e3,if_neg e4,if_neg e5,if_neg e6,if_neg e7,if_neg e8] at h
  obtain rfl:=X25 h
  exact⟨fun _=>rfl,fun q=>absurd q e1⟩
 simp at h
theorem Nu :∀{l:List JAA} {a a':JAE},KY a l=some a'->(CW l 1=false->a'.Origin=a.Origin)/\(CW l 1=true->0<=a'.Origin)
 | [],a,a',h=>by
  obtain rfl:=X25 h
  exact⟨fun _=>rfl,fun q=>by cases q⟩
 | x::t,a,a',h=>by
  unfold KY at h
  obtain⟨b,h1,h2⟩:=Option.bind_eq_some_iff.1 h
  have ih:=Nu h2
  have st:=UI h1
  have hc:CW (x::t) 1=(decide (x.Type_=1) || CW t 1):=by
   unfold CW
   rw[List.any_cons]
   congr 1
   rw[X28,beq_iff_eq,decide_eq_true_iff]
   exact eq_comm
  rw[hc]
  by_cases hx:x.Type_=1
  ·refine⟨fun q=>by simp[hx] at q,fun _=>?_⟩
   cases ht:CW t 1 with
   | true=>exact ih.2 ht
   | false=>rw[ih.1 ht];exact st.2 hx
  simp only[hx,decide_false,Bool.false_or]
  exact⟨fun q=>by rw[ih.1 q];exact st.1 hx,ih.2⟩
theorem XP {l:List JAA}(h:(rdS l).2=0):((rdS l).1.Origin=-1)↔CW l 1=false:=by
 unfold rdS at h ⊢
 split at h
 ·cases h
 rename_i hb
 rw[if_neg hb]
 cases hf:KY eA (A1 l) with
 | none=>rw[hf] at h;cases h
 | some a=>
  rw[hf] at h
  dsimp only at h ⊢
  split at h
  ·cases h
  rename_i hk
  rw[if_neg hk]
  have fo:=Nu hf
  rw[(DG l).2.2.1 1] at fo
  dsimp only
  cases ht:CW l 1 with
  | true=>
   have:=fo.2 ht
   simp only[Bool.true_eq_false,iff_false]
   omega
  | false=>rw[fo.1 ht];simp[eA]
end Go.AX.Q19
end
