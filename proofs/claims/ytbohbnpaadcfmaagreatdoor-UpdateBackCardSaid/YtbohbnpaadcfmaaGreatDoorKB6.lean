/-
  Texts of one proof, packed.
-/
import Derived.Test.YtbohbnpaadcfmaaGreatDoorKB5
import Derived.KernelRfl
set_option linter.all false
set_option maxRecDepth 100000
set_option maxHeartbeats 4000000
open List renaming length_append→X11,length_cons→X12,length_nil→X13,mem_singleton→X14,getElem?_eq_getElem→X15,getElem?_eq_some_iff→X16,length_drop→X17,length_take→X18,mem_cons_of_mem→X19,length_replicate→X20,length_singleton→X22,mem_append→X23
open Option.some renaming injEq→X24,inj→X25
open Prod.mk renaming injEq→X26
open Bool renaming and_eq_true→X27,eq_iff_iff→X28
open Nat renaming add_mul→X32
section
namespace Go.AX.Q19
open Go Go.AX
theorem O6 (n:Nat)(p:List JAD):J7 n [] p=some p:=by cases n<;>rfl
theorem Rz :∀(n m:Nat) (b:List UInt8) (p:List JAD),b.length<=n->b.length<=m->J7 n b p=J7 m b p
 | n,m,[],p,_,_=>by rw[O6,O6]
 | n+1,m+1,[x],p,_,_=>rfl
 | n+1,m+1,k::c::t,p,h1,h2=>by
  simp only[X12] at h1 h2
  simp only[J7]
  split
  ·rfl
  exact Rz n m _ _ (by simp only[X17];omega) (by simp only[X17];omega)
 | 0,_,_::_,_,h,_=>by simp at h
 | _,0,_::_,_,_,h=>by simp at h
def rdL (b:List UInt8)(p:List JAD):Option (List JAD):=J7 b.length b p
def Ks (k c:UInt8)(t:List UInt8):Bool:=decide ((k.toNat≠1/\k.toNat≠2)\/c.toNat=0\/t.length<4*c.toNat)
theorem Yb (p:List JAD):rdL [] p=some p:=rfl
theorem Vu (k c:UInt8)(t:List UInt8)(p:List JAD):rdL (k::c::t) p=if Ks k c t=true then none else rdL (t.drop (4*c.toNat)) (Gw p (k.toNat==1) (nums (t.take (4*c.toNat)))):=by
 unfold rdL Ks
 simp only[X12,J7,decide_eq_true_eq]
 split
 ·rfl
 exact Rz _ _ _ _ (by simp only[X17];omega) (by simp only[X17];omega)
def Lk (p:List JAD)(i:Nat)(l:List Int):Prop:=p=[] \/∃q s,p=q++[⟨s,l⟩]/\i=q.length
theorem Q7 {x:UInt8}{t:List UInt8}:geti (x::t) 0=some x:=C7 (l:=x::t) (i:=0) (by simp)
theorem Ud {x y:UInt8}{t:List UInt8}:geti (x::y::t) 1=some y:=C7 (l:=x::y::t) (i:=1) (by simp)
theorem fP (c:UInt8):AN (2+AN (4*(c.toNat:Int)))=((2+4*c.toNat:Nat):Int):=by
 have:=c.toNat_lt
 rw[AP (x:=4*(c.toNat:Int)) (by omega),AP (by omega)]
 omega
theorem QS (p:List JAD)(l:List Int):Gw p true l=p++[⟨true,srt l⟩]:=rfl
theorem RV (l:List Int):Gw [] false l=[⟨false,l⟩]:=rfl
theorem Js (q:List JAD)(m l:List Int):Gw (q++[⟨true,m⟩]) false l=q++[⟨true,m⟩]++[⟨false,l⟩]:=by
 unfold Gw;simp
theorem PP (q:List JAD)(m l:List Int):Gw (q++[⟨false,m⟩]) false l=q++[⟨false,m++l⟩]:=by
 unfold Gw;simp
theorem YU {l:List Int}(hl:l.length<=1000000):(srt l).length<=l.length:=by
 obtain⟨h1,h2⟩:=Ui hl
 refine UB (h1.imp fun {a b} h e=>?_) fun x hx=>(h2 x).1 hx
 subst e
 rw[QD] at h;simp at h
theorem Xx {α:Type}{q:List α}{x:α}(h:q.length<=1000000000):AN (((q++[x]).length:Int)-1)=(q.length:Int):=by
 rw[AP (by simp;omega)]
 simp
theorem cA {α:Type}(q:List α)(x y:α):seti (q++[x]) (q.length:Int) y=some (q++[y]):=by
 unfold seti
 rw[if_pos (by simp;omega)]
 simp
theorem aD {k c:UInt8}{t:List UInt8}(hlen:t.length<=1000000){ρ:Type}(K:Bool->Option ρ) :
  AI (τ:=Bool) (fun q=>if (decide (((k::c::t).length:Int)<2))=true then q true else
   Option.bind (geti (k::c::t) 0) fun v37=>
   if ((v37.toNat:Int) != 1)=true then
    Option.bind (geti (k::c::t) 0) fun v38=>
    if (cond false true (cond true ((v38.toNat:Int) != 2) false))=true then q true else
     Option.bind (geti (k::c::t) 1) fun v39=>
     if (cond false true (decide (((k::c::t).length:Int)<(AN (2+(AN (4*(v39.toNat:Int))))))))=true then q true else
      Option.bind (geti (k::c::t) 1) fun v40=>
      q (cond false true ((v40.toNat:Int)==0))
   else
    Option.bind (geti (k::c::t) 1) fun v41=>
    if (cond false true (decide (((k::c::t).length:Int)<(AN (2+(AN (4*(v41.toNat:Int))))))))=true then q true else
     Option.bind (geti (k::c::t) 1) fun v42=>
     q (cond false true ((v42.toNat:Int)==0))) K=K (Ks k c t):=by
 rw[AH,if_neg (by simp;omega)]
 simp only[Q7,Ud,AC,fP,cond_true,cond_false]
 unfold Ks
 have e1:((k.toNat:Int) != 1)=decide (k.toNat≠1):=by rw[X28];simp;omega
 have e2:((k.toNat:Int) != 2)=decide (k.toNat≠2):=by rw[X28];simp;omega
 have e3:((c.toNat:Int)==0)=decide (c.toNat=0):=by rw[X28];simp
 have e4:decide (((k::c::t).length:Int)<((2+4*c.toNat:Nat):Int))=decide (t.length<4*c.toNat):=by rw[X28];simp only[X12,decide_eq_true_eq];omega
 rw[e1,e2,e3,e4]
 by_cases h1:k.toNat=1<;>by_cases h2:k.toNat=2<;>by_cases h3:c.toNat=0<;>by_cases h4:t.length < 4*c.toNat<;>first | (exfalso;omega)|simp[h1,h2,h3,h4]
theorem cr {p:List JAD}(hp:p.length<=1000000){ρ:Type}(K:Bool->Option ρ) :
  AI (τ:=Bool) (fun q=>if (decide ((p.length:Int) > 0))=true then Option.bind (geti p (AN ((p.length:Int)-1))) fun v=>q (cond true (!v.Set) false) else q false) K=K (match p.getLast? with | some s=>!s.Set | none=>false):=by
 rcases List.eq_nil_or_concat p with rfl | ⟨q,s,rfl⟩
 ·rfl
 rw[List.concat_eq_append] at hp ⊢
 rw[AH,if_pos (by simp),Xx (by simp at hp;omega),NG,AC]
 simp
theorem ZA {k c:UInt8}{t:List UInt8}(h:4*c.toNat<=t.length):part (k::c::t) ((2+4*c.toNat:Nat):Int) ((k::c::t).length:Int)=some (t.drop (4*c.toNat)):=by
 rw[Ed (by simp;omega) (Nat.le_refl _)]
 rw[show 2+4*c.toNat=4*c.toNat+1+1 by omega,List.drop_succ_cons,List.drop_succ_cons,List.take_of_length_le (by simp)]
end Go.AX.Q19
end
section
namespace Go.AX
section
variable {α ρ:Type}
def chainB (lt:α->α->Bool):List α->Bool
 | x::y::t=>lt x y&&chainB lt (y::t)
 | _=>true
theorem HF (lt:α->α->Bool)(x y:α)(t:List α):chainB lt (x::y::t)=(lt x y&&chainB lt (y::t)):=rfl
theorem RI (lt:α->α->Bool)(x:α):chainB lt [x]=true:=rfl
theorem Hu {lt:α->α->Bool}(htr :∀a b c,lt a b=true->lt b c=true->lt a c=true) :∀{l:List α},chainB lt l=true↔l.Pairwise fun a b=>lt a b=true
 | []=>by simp[chainB]
 | [x]=>by simp[chainB]
 | x::y::t=>by
  rw[HF,X27,Hu htr (l:=y::t),List.pairwise_cons (a:=x)]
  constructor
  ·rintro⟨h1,h2⟩
   refine⟨fun z hz=>?_,h2⟩
   rcases List.mem_cons.1 hz with e | hz
   ·rw[e];exact h1
   exact htr _ _ _ h1 ((List.pairwise_cons.1 h2).1 z hz)
  rintro⟨h1,h2⟩
  exact⟨h1 y (by simp),h2⟩
theorem cY {ok:α->Bool}{lt:α->α->Bool}{l:List α}{K:Unit->Option ρ}{F:Option ρ}{body:(Unit->Option ρ)->α->Nat->Unit->Option ρ}(hl:l.length<=1000000000000)
  (h0 :∀next x,x∈l->body next x 0 ()=if ok x then next () else F)
  (h1 :∀next x y i,x∈l->y∈l->geti l (AN (((i+1:Nat):Int)-1))=some y->body next x (i+1) ()=if ok x&&lt y x then next () else F) :
  Ao K body l 0 ()=if l.all ok&&chainB lt l then K () else F:=by
 have key :∀(t p:List α) (y:α),l=p++y::t->Ao K body t (p.length+1) ()=if t.all ok&&chainB lt (y::t) then K () else F:=by
  intro t
  induction t with
  | nil=>intro p y _;rw[RI];rfl
  | cons x t ih=>
   intro p y e
   show body (fun s=>Ao K body t (p.length+1+1) s) x (p.length+1) ()=_
   have hlen:p.length<l.length:=by rw[e];simp
   rw[h1 _ x y p.length (by rw[e];simp) (by rw[e];simp) (by
    rw[AP (by omega),show ((p.length+1:Nat):Int)-1=(p.length:Int) by omega,e]
    exact NG p y (x::t))]
   have:=ih (p++[y]) x (by rw[e];simp)
   rw[X11,X22] at this
   rw[this,HF,List.all_cons]
   generalize chainB lt (x::t)=c1
   generalize t.all ok=c2
   cases ok x<;>cases lt y x<;>cases c1<;>cases c2<;>rfl
 match l,h0,h1,key with
 | [],_,_,_=>rfl
 | x::t,h0,_,key=>
  show body (fun s=>Ao K body t (0+1) s) x 0 ()=_
  rw[h0 _ x (by simp)]
  have:=key t [] x rfl
  rw[X13] at this
  rw[this,List.all_cons]
  generalize chainB lt (x::t)=c1
  generalize t.all ok=c2
  cases ok x<;>cases c1<;>cases c2<;>rfl
theorem e9 {σ:Type}{g:σ->α->σ}{ok:α->Bool}{lt:α->α->Bool}{l:List α}{s0:σ}{K:σ->Option ρ}{F:Option ρ}{body:(σ->Option ρ)->α->Nat->σ->Option ρ}(hl:l.length<=1000000000000)
  (h0 :∀next x s,x∈l->body next x 0 s=if ok x then next (g s x) else F)
  (h1 :∀next x y i s,x∈l->y∈l->geti l (AN (((i+1:Nat):Int)-1))=some y->body next x (i+1) s=if ok x&&lt y x then next (g s x) else F) :
  Ao K body l 0 s0=if l.all ok&&chainB lt l then K (l.foldl g s0) else F:=by
 have key :∀(t p:List α) (y:α) (s:σ),l=p++y::t->Ao K body t (p.length+1) s=if t.all ok&&chainB lt (y::t) then K (t.foldl g s) else F:=by
  intro t
  induction t with
  | nil=>intro p y s _;rw[RI];rfl
  | cons x t ih=>
   intro p y s e
   show body (fun s=>Ao K body t (p.length+1+1) s) x (p.length+1) s=_
   have hlen:p.length<l.length:=by rw[e];simp
   rw[h1 _ x y p.length s (by rw[e];simp) (by rw[e];simp) (by
    rw[AP (by omega),show ((p.length+1:Nat):Int)-1=(p.length:Int) by omega,e]
    exact NG p y (x::t))]
   have:=ih (p++[y]) x (g s x) (by rw[e];simp)
   rw[X11,X22] at this
   rw[this,HF,List.all_cons,List.foldl_cons]
   generalize chainB lt (x::t)=c1
   generalize t.all ok=c2
   cases ok x<;>cases lt y x<;>cases c1<;>cases c2<;>rfl
 match l,h0,h1,key with
 | [],_,_,_=>rfl
 | x::t,h0,_,key=>
  show body (fun s=>Ao K body t (0+1) s) x 0 s0=_
  rw[h0 _ x s0 (by simp)]
  have:=key t [] x (g s0 x) rfl
  rw[X13] at this
  rw[this,List.all_cons,List.foldl_cons]
  generalize chainB lt (x::t)=c1
  generalize t.all ok=c2
  cases ok x<;>cases c1<;>cases c2<;>rfl
theorem Rn {β:Type}{g:β->List α}{N:Nat}{body:(List α->Option ρ)->β->Nat->List α->Option ρ}{K:List α->Option ρ} :∀{l:List β} {i:Nat} {v:List α},v.length+(l.flatMap g).length<=N->
  (∀next x i v,x∈l->v.length+(g x).length<=N->body next x i v=next (v++g x))->Ao K body l i v=K (v++l.flatMap g)
 | [],i,v,_,_=>by rw[List.flatMap_nil,List.append_nil];rfl
 | x::t,i,v,h,hb=>by
  rw[List.flatMap_cons,X11] at h
  show body (fun s=>Ao K body t (i+1) s) x i v=_
  rw[hb _ x i v (by simp) (by omega),Rn (l:=t) (by rw[X11];omega) fun next y j w hy hw=>hb next y j w (X19 _ hy) hw,List.flatMap_cons,List.append_assoc]
def canon (e lt:α->α->Bool)(l:List α):List α:=l.foldl (fun acc x=>if acc.any (fun y=>e y x) then acc else Ff lt acc x) []
theorem XV (e lt:α->α->Bool)(l:List α)(x:α):canon e lt (l++[x])=if (canon e lt l).any (fun y=>e y x) then canon e lt l else Ff lt (canon e lt l) x:=by
 unfold canon
 rw[List.foldl_append]
 rfl
theorem MN {e lt:α->α->Bool}(he :∀a b,e a b=true↔a=b)(htr :∀a b c,lt a b=true->lt b c=true->lt a c=true)(htot :∀a b,lt a b=false->a=b\/lt b a=true)(l:List α) :
  (canon e lt l).Pairwise (fun a b=>lt a b=true)/\(∀x,x∈canon e lt l↔x∈l)/\(canon e lt l).length<=l.length:=by
 rw[<- List.reverse_reverse l]
 generalize l.reverse=m
 induction m with
 | nil=>exact⟨.nil,by simp[canon],by simp[canon]⟩
 | cons x t ih=>
  obtain⟨h1,h2,h3⟩:=ih
  rw[List.reverse_cons,XV]
  by_cases hx:(canon e lt t.reverse).any (fun y=>e y x)=true
  ·rw[if_pos hx]
   obtain⟨y,hy,hyx⟩:=List.any_eq_true.1 hx
   have:=(he _ _).1 hyx
   subst this
   refine⟨h1,fun z=>?_,by simp only[X11];omega⟩
   rw[X23,h2 z,X14]
   refine⟨.inl,fun q=>q.elim id fun e=>?_⟩
   rw[e];exact (h2 _).1 hy
  rw[if_neg hx]
  have hx:x∉canon e lt t.reverse:=fun q=>hx (List.any_eq_true.2 ⟨x,q,(he _ _).2 rfl⟩)
  refine⟨IY htr htot h1 hx,fun z=>?_,by rw[HG];simp only[X11,X22];omega⟩
  rw[D4,X23,h2 z,X14]
theorem JH {e lt:α->α->Bool}(he :∀a b,e a b=true↔a=b)(hirr :∀a,lt a a=false)(htr :∀a b c,lt a b=true->lt b c=true->lt a c=true)(htot :∀a b,lt a b=false->a=b\/lt b a=true)
  {l r:List α} (h1:r.Pairwise fun a b=>lt a b=true) (h2 :∀x,x∈r↔x∈l):r=canon e lt l:=by
 obtain⟨g1,g2,_⟩:=MN he htr htot l
 exact JZ (lt:=fun a b=>lt a b=true) (fun a h=>by rw[hirr] at h;simp at h) htr h1 g1 fun x=>(h2 x).trans (g2 x).symm
end
end Go.AX
end
section
namespace Go.AX.Q19
open Go Go.AX
theorem LL (a b:Int):cmp_Compare_int a b=some (ZY a b):=by
 unfold cmp_Compare_int cmp_isNaN_int ZY
 simp only[AC,bne_self_eq_false,Bool.false_eq_true,if_false,decide_eq_true_eq,gt_iff_lt]
 split<;>(try split)<;>rfl
theorem aA (l:List Int):FC l=some (orI l):=by
 unfold FC
 rw[AH]
 have key :∀(l:List Int) (i:Nat),Ao (σ:=Unit) (fun _=>some (0:Int)) (fun next x _ _=>if (x != 0)=true then some x else next ()) l i ()=some (orI l):=by
  intro l
  induction l with
  | nil=>intro i;rfl
  | cons x t ih=>
   intro i
   show (if (x != 0)=true then some x else Ao _ _ t (i+1) ())=_
   rw[ih]
   rw[Vz]
   by_cases h:x=0<;>simp[h]
 exact key l 0
def QU (c:JAB):List Int:=[c.A,c.B]
def RN (c:JAF):List Int:=[c.A,c.B,c.C]
theorem RQ (a b:JAB):(QU a).length=(QU b).length:=rfl
theorem QQ (a b:JAF):(RN a).length=(RN b).length:=rfl
theorem Z9 {a b:JAB}(h:QU a=QU b):a=b:=by
 simp only[QU,List.cons.injEq,and_true] at h
 cases a;cases b;simp_all
theorem bO {a b:JAF}(h:RN a=RN b):a=b:=by
 simp only[RN,List.cons.injEq,and_true] at h
 cases a;cases b;simp_all
def Jd:JAB->JAB->Bool:=ltK QU
def JI:JAF->JAF->Bool:=ltK RN
theorem Ro (a:JAB):Jd a a=false:=N3 a
theorem Q2 (a:JAF):JI a a=false:=N3 a
theorem LJ (a b c:JAB)(h1:Jd a b=true)(h2:Jd b c=true):Jd a c=true:=OL RQ a b c h1 h2
theorem LO (a b c:JAF)(h1:JI a b=true)(h2:JI b c=true):JI a c=true:=OL QQ a b c h1 h2
theorem KG (a b:JAB)(h:Jd a b=false):a=b\/Jd b a=true:=(Nu RQ a b h).imp_left Z9
theorem Ko (a b:JAF)(h:JI a b=false):a=b\/JI b a=true:=(Nu QQ a b h).imp_left bO
theorem ZP (a b:JAB):JAB.eqd a b=true↔a=b:=by
 unfold JAB.eqd
 simp only[X27,Bool.and_true,beq_iff_eq]
 constructor
 ·rintro⟨h1,h2⟩;cases a;cases b;simp_all
 rintro rfl;exact⟨rfl,rfl⟩
theorem ZI (a b:JAF):JAF.eqd a b=true↔a=b:=by
 unfold JAF.eqd
 simp only[X27,Bool.and_true,beq_iff_eq]
 constructor
 ·rintro⟨h1,h2,h3⟩;cases a;cases b;simp_all
 rintro rfl;exact⟨rfl,rfl,rfl⟩
theorem Vx (a b:JAB):Dy a b=some (Fb (QU a) (QU b)):=by
 unfold Dy
 rw[LL,AC,LL,AC,aA,AC,NL,NL]
 rfl
theorem WI (a b:JAF):CM a b=some (Fb (RN a) (RN b)):=by
 unfold CM
 rw[LL,AC,LL,AC,LL,AC,aA,AC,NL,NL,NL]
 rfl
theorem Y4 (a b:JAB):BW a b=some (Fb (QU a) (QU b)):=Vx a b
theorem ZJ (a b:JAF):CU a b=some (Fb (RN a) (RN b)):=WI a b
theorem V9 (a b:JAB):EV a b=some (Jd a b):=by
 unfold EV Jd ltK QU
 rw[AH]
 simp only[Fb,decide_eq_true_eq,beq_iff_eq,cond_true,cond_false]
 by_cases a1:a.A < b.A<;>by_cases a2:a.A=b.A<;>by_cases a3:b.A < a.A<;>by_cases b1:a.B < b.B<;>by_cases b3:b.B < a.B<;>first | (exfalso;omega)|simp[a1,a2,a3,b1,b3]
theorem VN (a b:JAF):B6 a b=some (JI a b):=by
 unfold B6 JI ltK RN
 simp only[AH]
 simp only[Fb,decide_eq_true_eq,beq_iff_eq,cond_true,cond_false]
 by_cases a1:a.A < b.A<;>by_cases a2:a.A=b.A<;>by_cases a3:b.A < a.A<;>by_cases b1:a.B < b.B<;>by_cases b2:a.B=b.B<;>by_cases b3:b.B < a.B<;>by_cases c1:a.C < b.C<;>by_cases c3:b.C < a.C<;>first | (exfalso;omega)|simp[a1,a2,a3,b1,b2,b3,c1,c3]
def inR (m x:Int):Bool:=decide (0<=x)&&decide (x<=m)
def okC (c:JAB):Bool:=inR 65535 c.A&&inR 65535 c.B
def okL (c:JAF):Bool:=inR 4294967295 c.A&&(inR 4294967295 c.B&&inR 4294967295 c.C)
theorem Ti (c:JAB):EP c=some (okC c):=by
 unfold EP okC inR
 rw[AH]
 simp only[decide_eq_true_eq,cond_true,ge_iff_le]
 by_cases a1:0<=c.A<;>by_cases a2:c.A<=65535<;>by_cases a3:0<=c.B<;>by_cases a4:c.B<=65535<;>simp[a1,a2,a3,a4]
theorem T0 (c:JAF):B9 c=some (okL c):=by
 unfold B9 okL inR
 rw[AH]
 simp only[decide_eq_true_eq,cond_true,ge_iff_le]
 by_cases a1:0<=c.A<;>by_cases a2:c.A<=4294967295<;>by_cases a3:0<=c.B<;>by_cases a4:c.B<=4294967295<;>by_cases a5:0<=c.C<;>by_cases a6:c.C<=4294967295<;>simp[a1,a2,a3,a4,a5,a6]
theorem mmR {g:Int->Int->Int}{x:Int}{t:List Int}(hl:t.length<=1000000000) :
  AI (τ:=Int) (fun k2=>A6 (σ:=Int×Int) (fun next3 p=>match p with
   | (v4,v5)=>if (decide (v5<((x::t).length:Int)))=true then Option.bind (geti (x::t) v5) fun v6=>next3 (g v4 v6,(AN (v5+1))) else k2 v4) fuel (x,1)) (fun v=>some v)=some (t.foldl g x):=by
 rw[AH]
 refine (DW (fun s:Int×Int=>∃j:Nat,s.2=(j+1:Nat)/\j<=t.length) (fun s=>((x::t).length-s.2).toNat) (fun s=>some ((t.drop (s.2.toNat-1)).foldl g s.1)) ?_ fuel (x,1) ⟨0,rfl,Nat.zero_le _⟩ (B2 (by simp;omega))).trans rfl
 rintro next ⟨m,i⟩ ⟨j,h1,h2⟩ hn
 dsimp only at h1
 subst h1
 dsimp only
 have e1:((j+1:Nat):Int).toNat-1=j:=by omega
 rw[e1]
 by_cases hj:j<t.length
 ·rw[if_pos (by simp only[X12,decide_eq_true_eq];omega),C7 (by simp;omega),AC,AP (by omega)]
  rw[hn _ ⟨j+1,by simp,by omega⟩ (by simp only[X12];omega)]
  have e2:(((j+1:Nat):Int)+1).toNat-1=j+1:=by omega
  simp only[e2,List.getElem_cons_succ]
  rw[List.drop_eq_getElem_cons hj,List.foldl_cons]
 rw[if_neg (by simp only[X12,decide_eq_true_eq];omega),List.drop_eq_nil_of_le (by omega)]
 rfl
def mn (a b:Int):Int:=if b<a then b else a
def mx (a b:Int):Int:=if b > a then b else a
theorem dn {x:Int}{t:List Int}(hl:t.length<=1000000000):Dj (x::t)=some (t.foldl mn x):=by
 unfold Dj
 rw[if_neg (by simp;omega),show geti (x::t) 0=some x from C7 (l:=x::t) (i:=0) (by simp),AC]
 exact mmR (g:=mn) hl
theorem eC {x:Int}{t:List Int}(hl:t.length<=1000000000):Di (x::t)=some (t.foldl mx x):=by
 unfold Di
 rw[if_neg (by simp;omega),show geti (x::t) 0=some x from C7 (l:=x::t) (i:=0) (by simp),AC]
 exact mmR (g:=mx) hl
theorem bK (n:Int) :∀(t:List Int) (x:Int),decide (n<=t.foldl mn x)=(x::t).all fun y=>decide (n<=y)
 | [],x=>by rw[List.all_cons,List.all_nil,Bool.and_true];rfl
 | y::t,x=>by
  rw[List.foldl_cons,bK n t (mn x y)]
  simp only[List.all_cons]
  unfold mn
  rw[X28]
  simp only[X27,decide_eq_true_eq]
  constructor
  ·rintro⟨h1,h2⟩;split at h1<;>exact⟨by omega,by omega,h2⟩
  rintro⟨h1,h2,h3⟩;split<;>exact⟨by omega,h3⟩
theorem Zb (n:Int) :∀(t:List Int) (x:Int),decide (t.foldl mx x<=n)=(x::t).all fun y=>decide (y<=n)
 | [],x=>by rw[List.all_cons,List.all_nil,Bool.and_true];rfl
 | y::t,x=>by
  rw[List.foldl_cons,Zb n t (mx x y)]
  simp only[List.all_cons]
  unfold mx
  rw[X28]
  simp only[X27,decide_eq_true_eq]
  constructor
  ·rintro⟨h1,h2⟩;split at h1<;>exact⟨by omega,by omega,h2⟩
  rintro⟨h1,h2,h3⟩;split<;>exact⟨by omega,h3⟩
theorem RD {m x:Int}{t:List Int}(hl:t.length<=1000000000):DY m (x::t)=some ((x::t).all (inR m)):=by
 unfold DY
 rw[AH,dn hl,AC,eC hl]
 have e:(x::t).all (inR m)=(decide (0<=t.foldl mn x)&&decide (t.foldl mx x<=m)):=by
  rw[bK,Zb,X28,X27]
  simp only[List.all_eq_true,inR,X27]
  exact⟨fun h=>⟨fun y hy=>(h y hy).1,fun y hy=>(h y hy).2⟩,fun h y hy=>⟨h.1 y hy,h.2 y hy⟩⟩
 rw[e]
 by_cases h:0<=t.foldl mn x
 ·rw[if_pos (by simpa using h),AC,decide_eq_true h];rfl
 rw[if_neg (by simpa using h),decide_eq_false h];rfl
theorem ar (c:JAB):E4 c=some (okC c):=by
 unfold E4
 rw[RD (by simp),AC]
 simp[okC]
theorem au (c:JAF):DN c=some (okL c):=by
 unfold DN
 rw[RD (by simp),AC]
 simp[okL]
def EY (l:List JAB):Bool:=l.all okC&&chainB Jd l&&decide (l.length<=64)
def ET (l:List JAF):Bool:=l.all okL&&chainB JI l&&decide (l.length<=64)
theorem cy {X:Type}{key:X->List Int}(a b:X):decide (Fb (key a) (key b) ≥ 0)=!ltK key a b:=by
 unfold ltK
 rw[X28]
 simp
theorem cb {α:Type}{ok:α->Bool}{lt:α->α->Bool}{l:List α}(hl:l.length<=1000000000){body:(Unit->Option Bool)->α->Nat->Unit->Option Bool}
  (h :∀next x i,body next x i ()=AI (τ:=Bool) (fun k5=>Option.bind (some (ok x)) fun v6=>if (!v6)=true then k5 true else if (decide ((i:Int) > 0))=true then Option.bind (geti l (AN ((i:Int)-1))) fun v7=>Option.bind (some (lt v7 x)) fun v8=>k5 (cond false true (cond true (!v8) false)) else k5 false) fun v9=>if v9=true then some false else next ()) :
  (AI (τ:=Unit) (fun k1=>Ao (σ:=Unit) (fun _=>k1 ()) body l 0 ()) fun _=>some (decide ((l.length:Int)<=64)))=some (l.all ok&&chainB lt l&&decide (l.length<=64)):=by
 rw[AH,cY (ok:=ok) (lt:=lt) (F:=some false) (by omega)]
 ·have e:decide ((l.length:Int)<=64)=decide (l.length<=64):=by rw[X28];simp;omega
  rw[e]
  generalize (l.all ok&&chainB lt l)=b
  cases b<;>rfl
 ·intro next x _
  rw[h,AH,AC]
  cases ok x<;>rfl
 intro next x y i _ _ hg
 rw[h,AH,AC,hg,AC,AC,if_pos (show decide (((i+1:Nat):Int) > 0)=true by simp)]
 cases ok x<;>cases lt y x<;>rfl
theorem KJ {l:List JAB}(hl:l.length<=1000000000):E1 l=some (EY l):=by
 unfold E1 EY
 exact cb hl fun next x i=>by simp only[Ti,V9]
theorem Hf {l:List JAF}(hl:l.length<=1000000000):Cf l=some (ET l):=by
 unfold Cf ET
 exact cb hl fun next x i=>by simp only[T0,VN]
theorem IH {l:List JAB}(hl:l.length<=1000000000):DK l=some (EY l):=by
 unfold DK Ae EY
 rw[cb (ok:=okC) (lt:=Jd) hl fun next x i=>by simp only[ar,Vx,AC,cy];rfl]
 rfl
theorem GB {l:List JAF}(hl:l.length<=1000000000):Bd l=some (ET l):=by
 unfold Bd AW ET
 rw[cb (ok:=okL) (lt:=JI) hl fun next x i=>by simp only[au,WI,AC,cy];rfl]
 rfl
theorem E8 {l:List JAB}:EY l=true↔(∀c∈l,okC c=true)/\(l.Pairwise fun a b=>Jd a b=true)/\l.length<=64:=by
 unfold EY
 rw[X27,X27,Hu LJ,List.all_eq_true,decide_eq_true_eq,and_assoc]
theorem Et {l:List JAF}:ET l=true↔(∀c∈l,okL c=true)/\(l.Pairwise fun a b=>JI a b=true)/\l.length<=64:=by
 unfold ET
 rw[X27,X27,Hu LO,List.all_eq_true,decide_eq_true_eq,and_assoc]
theorem eD {α:Type}{e:α->α->Bool}{x:α} :∀(l:List α) (i:Nat),Ao (σ:=Unit) (fun _=>some false) (fun (next:Unit->Option Bool) (y:α) _ _=>if e y x=true then some true else next ()) l i ()=some (l.any fun y=>e y x)
 | [],_=>rfl
 | y::t,i=>by
  show (if e y x=true then some true else Ao _ _ t (i+1) ())=_
  rw[eD t (i+1),List.any_cons]
  cases e y x<;>rfl
theorem Us (l:List JAB)(c:JAB):Gv l c=some (l.any fun y=>JAB.eqd y c):=by
 unfold Gv
 rw[AH]
 exact eD l 0
theorem Nl (l:List JAF)(c:JAF):Dh l c=some (l.any fun y=>JAF.eqd y c):=by
 unfold Dh
 rw[AH]
 exact eD l 0
theorem Q9 {α:Type}{l:List α}{n:Nat}(h:n<=l.length):part l 0 (n:Int)=some (l.take n):=by
 have:=Ed (l:=l) (a:=0) (b:=n) (by omega) h
 simpa using this
theorem IK {α:Type}{l:List α}{n:Nat}(h:n<=l.length):part l (n:Int) (l.length:Int)=some (l.drop n):=by
 rw[Ed h (Nat.le_refl _),List.take_of_length_le (by simp)]
theorem Qy {α:Type}{b:Nat}{lt:α->α->Bool}{l:List α}{x:α}(hb:Nat.ble b 65536=true)(hl:l.length+1<=1000000000){ρ:Type}{K:List α->Option ρ} :
  (Option.bind (part l 0 ((l.takeWhile (lt · x)).length:Int)) fun v14=>Option.bind (apnd (α:=α) b [] v14) fun _=>Option.bind (apnd (α:=α) b v14 ([x]:List α)) fun v15=>Option.bind (part l ((l.takeWhile (lt · x)).length:Int) (l.length:Int)) fun v16=>Option.bind (apnd (α:=α) b v15 v16) K)=K (Ff lt l x):=by
 have ht:=G1 (lt · x) l
 obtain⟨h1,h2⟩:=takeWhile_take (lt · x) l
 rw[Q9 (by omega),AC,AO hb (by simp;omega),AC,AO hb (by simp;omega),AC,IK (by omega),AC,AO hb (by simp;omega),AC,h1,h2]
 unfold Ff
 simp
def Xc:List JAB->List JAB:=canon JAB.eqd Jd
def Xa:List JAF->List JAF:=canon JAF.eqd JI
theorem UP {l:List JAB}{c:JAB}(hv:EY l=true)(hc:okC c=true)(hl:l.length<64):Ix l c=some (if l.any (fun y=>JAB.eqd y c)=true then l else Ff Jd l c,0):=by
 unfold Ix
 rw[AH,KJ (by omega),AC,hv,if_neg (by decide),Ti,AC,hc]
 show (if (bif false then true else !true)=true then _ else _)=_
 rw[if_neg (by decide),Us,AC]
 by_cases h:(l.any fun y=>JAB.eqd y c)=true
 ·rw[if_pos h,if_pos h,AO (by decide) (by simp;omega),AC]
 rw[if_neg h,if_neg h,if_neg (by simp;omega)]
 rw[cj (p:=(Jd · c)) (fun y k9=>Option.bind (EV y c) fun v11=>k9 (cond true v11 false)) (by omega) (fun y _ k=>by rw[V9];rfl)]
 exact Qy (K:=fun v17=>some (v17,0)) (by decide) (by omega)
theorem NS {l:List JAF}{c:JAF}(hv:ET l=true)(hc:okL c=true)(hl:l.length<64):Ey l c=some (if l.any (fun y=>JAF.eqd y c)=true then l else Ff JI l c,0):=by
 unfold Ey
 rw[AH,Hf (by omega),AC,hv,if_neg (by decide),T0,AC,hc]
 show (if (bif false then true else !true)=true then _ else _)=_
 rw[if_neg (by decide),Nl,AC]
 by_cases h:(l.any fun y=>JAF.eqd y c)=true
 ·rw[if_pos h,if_pos h,AO (by decide) (by simp;omega),AC]
 rw[if_neg h,if_neg h,if_neg (by simp;omega)]
 rw[cj (p:=(JI · c)) (fun y k9=>Option.bind (B6 y c) fun v11=>k9 (cond true v11 false)) (by omega) (fun y _ k=>by rw[VN];rfl)]
 exact Qy (K:=fun v17=>some (v17,0)) (by decide) (by omega)
theorem TM (l:List JAB):(Xc l).Pairwise (fun a b=>Jd a b=true)/\(∀x,x∈Xc l↔x∈l)/\(Xc l).length<=l.length:=MN ZP LJ KG l
theorem S4 (l:List JAF):(Xa l).Pairwise (fun a b=>JI a b=true)/\(∀x,x∈Xa l↔x∈l)/\(Xa l).length<=l.length:=MN ZI LO Ko l
theorem QX {l:List JAB}(h :∀c∈l,okC c=true)(hl:l.length<=64):EY (Xc l)=true:=by
 obtain⟨h1,h2,h3⟩:=TM l
 exact E8.2 ⟨fun c hc=>h c ((h2 c).1 hc),h1,by omega⟩
theorem QK {l:List JAF}(h :∀c∈l,okL c=true)(hl:l.length<=64):ET (Xa l)=true:=by
 obtain⟨h1,h2,h3⟩:=S4 l
 exact Et.2 ⟨fun c hc=>h c ((h2 c).1 hc),h1,by omega⟩
theorem SY {l:List JAB}(hl:l.length<=1000000){ρ:Type}{K:List JAB->Option ρ}:(Option.bind (EO BW l) fun v=>Option.bind (Ax v) K)=K (Xc l):=by
 obtain⟨r,h,h1,h2⟩:=ND RQ Y4 (l:=l) (by omega)
 rw[h,AC]
 obtain⟨c,g,g1,g2⟩:=Ky (lt:=Jd) (e:=JAB.eqd) (zz:=⟨0,0⟩) Ro LJ KG ZP (l:=r) h2 (by rw[h1.length_eq];omega)
 have e:Ax r=KW JAB.eqd ⟨0,0⟩ r:=rfl
 rw[e,g,AC,JH (l:=l) ZP Ro LJ KG g1 fun x=>(g2 x).trans h1.mem_iff]
 rfl
theorem SC {l:List JAF}(hl:l.length<=1000000){ρ:Type}{K:List JAF->Option ρ}:(Option.bind (EO CU l) fun v=>Option.bind (BA v) K)=K (Xa l):=by
 obtain⟨r,h,h1,h2⟩:=ND QQ ZJ (l:=l) (by omega)
 rw[h,AC]
 obtain⟨c,g,g1,g2⟩:=Ky (lt:=JI) (e:=JAF.eqd) (zz:=⟨0,0,0⟩) Q2 LO Ko ZI (l:=r) h2 (by rw[h1.length_eq];omega)
 have e:BA r=KW JAF.eqd ⟨0,0,0⟩ r:=rfl
 rw[e,g,AC,JH (l:=l) ZI Q2 LO Ko g1 fun x=>(g2 x).trans h1.mem_iff]
 rfl
def comms:List UInt8->List JAB
 | a::b::c::d::t=>⟨Eg [a,b],Eg [c,d]⟩::comms t
 | _=>[]
def Cd:List Int->List JAF
 | a::b::c::t=>⟨a,b,c⟩::Cd t
 | _=>[]
theorem Md (a b c d:UInt8)(t:List UInt8):comms (a::b::c::d::t)=⟨Eg [a,b],Eg [c,d]⟩::comms t:=rfl
theorem Kw (a b c:Int)(t:List Int):Cd (a::b::c::t)=⟨a,b,c⟩::Cd t:=rfl
theorem Oa :∀l:List UInt8,(comms l).length=l.length/4
 | a::b::c::d::t=>by
  rw[Md,X12,Oa t]
  simp only[X12]
  omega
 | []=>rfl
 | [_]=>by simp[comms]
 | [_,_]=>by simp[comms]
 | [_,_,_]=>by simp[comms]
theorem ML :∀l:List Int,(Cd l).length=l.length/3
 | a::b::c::t=>by
  rw[Kw,X12,ML t]
  simp only[X12]
  omega
 | []=>rfl
 | [_]=>by simp[Cd]
 | [_,_]=>by simp[Cd]
theorem Ve (a b:UInt8):0<=Eg [a,b]/\Eg [a,b]<=65535:=by
 have:=MO [a,b]
 rw[GY (by simp)]
 simp only[X12,X13] at this
 omega
theorem RA :∀(l:List UInt8),∀c∈comms l,okC c=true
 | a::b::c::d::t=>by
  rw[Md]
  intro x hx
  rcases List.mem_cons.1 hx with rfl | hx
  ·have h1:=Ve a b
   have h2:=Ve c d
   simp[okC,inR,h1,h2]
  exact RA t x hx
 | []=>by intro n h;simp[comms] at h
 | [_]=>by intro n h;simp[comms] at h
 | [_,_]=>by intro n h;simp[comms] at h
 | [_,_,_]=>by intro n h;simp[comms] at h
theorem OC :∀(l:List Int),(∀n∈l,0<=n/\n<=4294967295)->∀c∈Cd l,okL c=true
 | a::b::c::t,h=>by
  rw[Kw]
  intro x hx
  rcases List.mem_cons.1 hx with rfl | hx
  ·have h1:=h a (by simp)
   have h2:=h b (by simp)
   have h3:=h c (by simp)
   simp[okL,inR,h1,h2,h3]
  exact OC t (fun n hn=>h n (by simp[hn])) x hx
 | [],_=>by intro n h;simp[Cd] at h
 | [_],_=>by intro n h;simp[Cd] at h
 | [_,_],_=>by intro n h;simp[Cd] at h
theorem eV (a b c d:UInt8):Int.fdiv (Eg [a,b,c,d]) (2^(min (Int.toNat 16) 64))=Eg [a,b]/\AN ((BitVec.ofInt 64 (Eg [a,b,c,d]) &&& BitVec.ofInt 64 65535).toNat:Int)=Eg [c,d]:=by
 have h1:=a.toNat_lt
 have h2:=b.toNat_lt
 have h3:=c.toNat_lt
 have h4:=d.toNat_lt
 rw[GY (by simp),GY (by simp),GY (by simp)]
 have v4:val [a,b,c,d]=((a.toNat*256+b.toNat)*256+c.toNat)*256+d.toNat:=by simp[val]
 have v2:val [a,b]=a.toNat*256+b.toNat:=by simp[val]
 have v2':val [c,d]=c.toNat*256+d.toNat:=by simp[val]
 rw[v4,v2,v2']
 constructor
 ·have e:((2:Int)^(min (Int.toNat 16) 64))=65536:=rfl
  rw[e,Int.fdiv_eq_ediv_of_nonneg _ (by omega)]
  omega
 have e:BitVec.ofInt 64 65535=BitVec.ofNat 64 (2^16-1):=rfl
 rw[BitVec.ofInt_natCast,e,BitVec.toNat_and,BitVec.toNat_ofNat,BitVec.toNat_ofNat,Nat.mod_eq_of_lt (show ((a.toNat*256+b.toNat)*256+c.toNat)*256+d.toNat<2^64 by omega),Nat.mod_eq_of_lt (show 2^16-1<2^64 by decide),Nat.and_two_pow_sub_one_eq_mod]
 rw[AP (by omega)]
 omega
theorem Lr :∀(l:List UInt8),(nums l).map (fun n=>(⟨Int.fdiv n (2^(min (Int.toNat 16) 64)),AN ((BitVec.ofInt 64 n &&& BitVec.ofInt 64 65535).toNat:Int)⟩:JAB))=comms l
 | a::b::c::d::t=>by
  rw[LX,Md,List.map_cons,Lr t]
  obtain⟨h1,h2⟩:=eV a b c d
  rw[h1,h2]
 | []=>rfl
 | [_]=>rfl
 | [_,_]=>rfl
 | [_,_,_]=>rfl
theorem eS {n:List Int}{ρ:Type}{K:List JAF->Option ρ}(h1:n.length%3=0)(h2:n.length<=1000000) :
  AI (τ:=List JAF) (fun k130=>A6 (σ:=(List JAF)×(List Int)) (fun next131 p=>match p with
   | (v132,v133)=>if (decide ((v133.length:Int) > 0))=true then
     Option.bind (geti v133 0) fun v134=>
     Option.bind (geti v133 1) fun v135=>
     Option.bind (geti v133 2) fun v136=>
     Option.bind (apnd (α:=JAF) 24 v132 ([(⟨v134,v135,v136⟩:JAF)]:List JAF)) fun v137=>
     Option.bind (part v133 3 (v133.length:Int)) fun v138=>
     next131 (v137,v138)
    else k130 v132) fuel ([],n)) K=K (Cd n):=by
 rw[AH]
 refine (DW (fun s:List JAF×List Int=>s.2.length%3=0/\s.1.length+s.2.length<=1000000) (fun s=>s.2.length) (fun s=>K (s.1++Cd s.2)) ?_ fuel ([],n) ⟨h1,by simpa using h2⟩ (B2 (by simp only;omega))).trans rfl
 rintro next ⟨o,v⟩ ⟨g1,g2⟩ hn
 dsimp only at g1 g2 ⊢
 match v,g1,g2,hn with
 | [],_,_,_=>simp[Cd]
 | [_],g1,_,_=>simp at g1
 | [_,_],g1,_,_=>simp at g1
 | a::b::c::t,g1,g2,hn=>
  simp only[X12] at g1 g2
  have e1:geti (a::b::c::t) 0=some a:=C7 (l:=a::b::c::t) (i:=0) (by simp)
  have e2:geti (a::b::c::t) 1=some b:=C7 (l:=a::b::c::t) (i:=1) (by simp)
  have e3:geti (a::b::c::t) 2=some c:=C7 (l:=a::b::c::t) (i:=2) (by simp)
  have e4:part (a::b::c::t) 3 ((a::b::c::t).length:Int)=some t:=IK (l:=a::b::c::t) (n:=3) (by simp)
  rw[if_pos (by simp;omega),e1,AC,e2,AC,e3,AC,AO (by decide) (by simp;omega),AC,e4,AC,hn _ ⟨by simp only;omega,by simp;omega⟩ (by simp only[X12];omega),Kw]
  simp
end Go.AX.Q19
end
section
end
section
namespace Go.AX.Q19
open Go Go.AX
def toP (a:JAC):Int×Bool×UInt64×UInt64×Int×Int×Int×(List JAD)×(List JAB)×(List JAF):=(a.Origin,a.Next.V6,a.Next.Hi,a.Next.Lo,a.MED,a.Pref,a.OTC,a.Path,a.Communities,a.JAF)
def L6 (p:List JAD):Bool:=(Eo p).getD false
def LD (d:List UInt8):Option Int:=if d.length=1/\Eg d<=2 then some (Eg d) else none
def Og (d:List UInt8):Option (List JAD):=(rdL d []).bind fun p=>if L6 p=true then some p else none
def addrOf (d:List UInt8):Addr:=((A5 d).getD (⟨false,0,0⟩,0)).1
def Qg (d:List UInt8):Option Addr:=if d.length=4 then some (addrOf d) else none
def rd4 (d:List UInt8):Option Int:=if d.length=4 then some (Eg d) else none
def Vr (d:List UInt8):Option Int:=if d.length=4/\Eg d≠0 then some (Eg d) else none
def OA (d:List UInt8):Option (List JAB):=if d.length≠0/\d.length%4=0/\d.length/4<=64 then some (Xc (comms d)) else none
def JO (d:List UInt8):Option (List JAF):=if d.length≠0/\d.length%12=0/\d.length/12<=64 then some (Xa (Cd (nums d))) else none
def I9 (a:JAC)(t:Int)(d:List UInt8):Option JAC:=
 if t=1 then (LD d).map fun v=>{ a with Origin:=v } else
 if t=2 then (Og d).map fun v=>{ a with Path:=v } else
 if t=3 then (Qg d).map fun v=>{ a with Next:=v } else
 if t=4 then (rd4 d).map fun v=>{ a with MED:=v } else
 if t=5 then (rd4 d).map fun v=>{ a with Pref:=v } else
 if t=8 then (OA d).map fun v=>{ a with Communities:=v } else
 if t=32 then (JO d).map fun v=>{ a with JAF:=v } else
 if t=35 then (Vr d).map fun v=>{ a with OTC:=v } else some a
def stepS (a:JAC)(x:JAA):Option JAC:=if fl x.Type_=0 then some a else if Eu x=true then I9 a x.Type_ x.Data else none
theorem UN (d:List UInt8):CP d=A5 d:=rfl
instance (a0:List UInt8):Tt (A5 a0):=by unfold A5;exact Tt.auto
theorem Ye (d:List UInt8) :∃e,A5 d=some (addrOf d,e):=by
 have h :∃r,A5 d=some r:=Tt.h
 obtain⟨⟨r,e⟩,h⟩:=h
 refine⟨e,?_⟩
 unfold addrOf
 rw[h];rfl
theorem LI {d:List UInt8}(h:d.length=4):0<=Eg d/\Eg d<=4294967295:=by
 have:=MO d
 rw[GY (by omega)]
 rw[h] at this
 omega
section
variable {ρ:Type} {F:Option ρ} {next:Int×Bool×UInt64×UInt64×Int×Int×Int×(List JAD)×(List JAB)×(List JAF)->Option ρ} {x:JAA} {a:JAC}
theorem bz (h:x.Type_=1)(e:fl x.Type_=64):Ek F next x (toP a)=match stepS a x with | none=>F | some a'=>next (toP a'):=by
 unfold Ek toP stepS I9 LD
 dsimp only
 rw[AH,if_pos (by rw[h];rfl),AH,Ba x (by rw[e];decide),if_neg (by rw[e];decide)]
 simp only[AH,AC,Ce,h,if_true]
 have e1:((x.Data.length:Int)==1)=decide (x.Data.length=1):=by rw[X28];simp;omega
 rw[e1]
 cases hr:Eu x<;>by_cases h1:x.Data.length=1<;>by_cases h2:Eg x.Data<=2<;>simp[h1,h2]
theorem ci (h:x.Type_=3)(e:fl x.Type_=64):Ek F next x (toP a)=match stepS a x with | none=>F | some a'=>next (toP a'):=by
 unfold Ek toP stepS I9 Qg
 dsimp only
 obtain⟨er,he⟩:=Ye x.Data
 rw[AH,if_neg (by rw[h];decide),if_neg (by rw[h];decide),if_pos (by rw[h];rfl),AH,Ba x (by rw[e];decide),if_neg (by rw[e];decide),h]
 simp only[AH,AC,he]
 have e1:((x.Data.length:Int)==4)=decide (x.Data.length=4):=by rw[X28];simp;omega
 rw[e1]
 cases hr:Eu x<;>by_cases h1:x.Data.length=4<;>simp[h1]
theorem cM (h:x.Type_=4)(e:fl x.Type_=128):Ek F next x (toP a)=match stepS a x with | none=>F | some a'=>next (toP a'):=by
 unfold Ek toP stepS I9 rd4
 dsimp only
 rw[AH,if_neg (by rw[h];decide),if_neg (by rw[h];decide),if_neg (by rw[h];decide),if_pos (by rw[h];rfl),AH,Ba x (by rw[e];decide),if_neg (by rw[e];decide),h]
 simp only[AH,AC,Ce]
 have e1:((x.Data.length:Int)==4)=decide (x.Data.length=4):=by rw[X28];simp;omega
 rw[e1]
 cases hr:Eu x<;>by_cases h1:x.Data.length=4<;>simp[h1]
theorem ct (h:x.Type_=5)(e:fl x.Type_=64):Ek F next x (toP a)=match stepS a x with | none=>F | some a'=>next (toP a'):=by
 unfold Ek toP stepS I9 rd4
 dsimp only
 rw[AH,if_neg (by rw[h];decide),if_neg (by rw[h];decide),if_neg (by rw[h];decide),if_neg (by rw[h];decide),if_pos (by rw[h];rfl),AH,Ba x (by rw[e];decide),if_neg (by rw[e];decide),h]
 simp only[AH,AC,Ce]
 have e1:((x.Data.length:Int)==4)=decide (x.Data.length=4):=by rw[X28];simp;omega
 rw[e1]
 cases hr:Eu x<;>by_cases h1:x.Data.length=4<;>simp[h1]
theorem aH (h:x.Type_=35)(e:fl x.Type_=192):Ek F next x (toP a)=match stepS a x with | none=>F | some a'=>next (toP a'):=by
 unfold Ek toP stepS I9 Vr
 dsimp only
 rw[AH,if_neg (by rw[h];decide),if_neg (by rw[h];decide),if_neg (by rw[h];decide),if_neg (by rw[h];decide),if_neg (by rw[h];decide),if_neg (by rw[h];decide),if_neg (by rw[h];decide),if_pos (by rw[h];rfl),AH,Ba x (by rw[e];decide),if_neg (by rw[e];decide),h]
 simp only[AH,AC,Ce,number_eq]
 have e1:((x.Data.length:Int)==4)=decide (x.Data.length=4):=by rw[X28];simp;omega
 rw[e1]
 by_cases h1:x.Data.length=4
 ·have hg:=LI h1
  have h3:decide (1<=Eg x.Data)=decide (Eg x.Data≠0):=by rw[X28];simp;omega
  have h4:decide (Eg x.Data<=4294967295)=true:=decide_eq_true hg.2
  rw[h3,h4]
  cases hr:Eu x<;>by_cases h2:Eg x.Data=0<;>simp[h1,h2]
 cases hr:Eu x<;>simp[h1]
theorem cC (h:x.Type_≠1/\x.Type_≠2/\x.Type_≠3/\x.Type_≠4/\x.Type_≠5/\x.Type_≠8/\x.Type_≠32/\x.Type_≠35)(e:fl x.Type_=0):Ek F next x (toP a)=match stepS a x with | none=>F | some a'=>next (toP a'):=by
 obtain⟨h1,h2,h3,h4,h5,h6,h7,h8⟩:=h
 unfold Ek toP stepS
 dsimp only
 rw[AH,if_neg (by simpa using h1),if_neg (by simpa using h2),if_neg (by simpa using h3),if_neg (by simpa using h4),if_neg (by simpa using h5),if_neg (by simpa using h6),if_neg (by simpa using h7),if_neg (by simpa using h8),if_pos e]
theorem fj {α β ρ:Type}{g:β->α}{b:Nat}{K:List α->Option ρ}(hb:Nat.ble b 65536=true) :∀(l:List β) (i:Nat) (acc:List α),acc.length+l.length<=1000000000->Ao K (fun next x _ v=>Option.bind (apnd (α:=α) b v ([g x]:List α)) fun v'=>next v') l i acc=K (acc++l.map g)
 | [],i,acc,_=>by rw[List.map_nil,List.append_nil];rfl
 | x::t,i,acc,h=>by
  simp only[X12] at h
  show (Option.bind (apnd (α:=α) b acc ([g x]:List α)) fun v'=>Ao K _ t (i+1) v')=_
  rw[AO hb (by simp;omega),AC,fj hb t (i+1) _ (by simp;omega)]
  simp
theorem bp (hd:x.Data.length<=1000000)(h:x.Type_=8)(e:fl x.Type_=192):Ek F next x (toP a)=match stepS a x with | none=>F | some a'=>next (toP a'):=by
 have er :∀d,I9 a 8 d=(OA d).map fun v=>{ a with Communities:=v }:=fun _=>rfl
 unfold Ek toP stepS
 dsimp only
 rw[AH,if_neg (by rw[h];decide),if_neg (by rw[h];decide),if_neg (by rw[h];decide),if_neg (by rw[h];decide),if_neg (by rw[h];decide),if_pos (by rw[h];rfl),AH,Ba x (by rw[e];decide),if_neg (by rw[e];decide),h,AC]
 by_cases hr:Eu x=true
 rotate_left
 ·have hr:Eu x=false:=by simpa using hr
  rw[hr]
  rfl
 have hl:=Oa x.Data
 have hc:=TM (comms x.Data)
 rw[hr,if_neg (by decide),AH,Ep (by omega),AC,AH,fj (by decide) _ _ _ (by rw[HK];simp;omega),Lr,List.nil_append,er]
 unfold OA
 show AI _ _=_
 rw[AH]
 have e1:((Int.tmod (x.Data.length:Int) 4)==0)=decide (x.Data.length%4=0):=by
  rw[Int.tmod_eq_emod_of_nonneg (by omega),X28];simp;omega
 have e2 :∀K:Bool->Option ρ,(AI (τ:=Bool) (fun k113=>if (decide (((comms x.Data).length:Int) > 0))=true then k113 (cond true (decide (((comms x.Data).length:Int)<=64)) false) else k113 false) K)=K (decide (0<(comms x.Data).length/\(comms x.Data).length<=64)):=by
  intro K
  rw[AH]
  by_cases g1:0 < (comms x.Data).length<;>by_cases g2:(comms x.Data).length<=64<;>simp[g1,g2]<;>first | (intro;omega)|(rw[decide_eq_true (by omega)])|(rw[decide_eq_false (by omega)])|omega
 rw[e2,SY (by omega)]
 simp only[AH,e1]
 by_cases g:x.Data.length≠0/\x.Data.length%4=0/\x.Data.length/4<=64
 ·rw[if_pos g,decide_eq_true (show 0<(comms x.Data).length/\(comms x.Data).length<=64 by omega),if_pos rfl,if_pos (by rw[decide_eq_true g.2.1];rfl),IH (by omega),QX (RA _) (by omega)]
  rfl
 rw[if_neg g]
 by_cases g1:0<(comms x.Data).length/\(comms x.Data).length<=64
 ·rw[decide_eq_true g1,if_pos rfl,if_neg (by rw[decide_eq_false (by omega)];decide)]
  rfl
 rw[decide_eq_false g1,if_neg (by decide)]
 rfl
theorem ZZ (hd:x.Data.length<=1000000)(h:x.Type_=32)(e:fl x.Type_=192):Ek F next x (toP a)=match stepS a x with | none=>F | some a'=>next (toP a'):=by
 have er :∀d,I9 a 32 d=(JO d).map fun v=>{ a with JAF:=v }:=fun _=>rfl
 unfold Ek toP stepS
 dsimp only
 rw[AH,if_neg (by rw[h];decide),if_neg (by rw[h];decide),if_neg (by rw[h];decide),if_neg (by rw[h];decide),if_neg (by rw[h];decide),if_neg (by rw[h];decide),if_pos (by rw[h];rfl),AH,Ba x (by rw[e];decide),if_neg (by rw[e];decide),h,AC]
 by_cases hr:Eu x=true
 rotate_left
 ·have hr:Eu x=false:=by simpa using hr
  rw[hr]
  rfl
 have e1:((Int.tmod (x.Data.length:Int) 12) != 0)=!decide (x.Data.length%12=0):=by
  rw[Int.tmod_eq_emod_of_nonneg (by omega),X28];simp;omega
 rw[hr,if_neg (by decide),AH,e1]
 by_cases g1:x.Data.length%12=0
 rotate_left
 ·rw[decide_eq_false g1,if_pos rfl,er]
  unfold JO
  rw[if_neg (show ¬ (x.Data.length≠0/\x.Data.length%12=0/\x.Data.length/12<=64) by omega)]
  rfl
 have hl:=ML (nums x.Data)
 rw[HK] at hl
 have hc:=S4 (Cd (nums x.Data))
 rw[decide_eq_true g1,if_neg (by decide),Ep (by omega),AC,eS (by rw[HK];omega) (by rw[HK];omega),er]
 unfold JO
 show AI _ _=_
 rw[AH]
 have e2 :∀K:Bool->Option ρ,(AI (τ:=Bool) (fun k113=>if (decide (((Cd (nums x.Data)).length:Int) > 0))=true then k113 (cond true (decide (((Cd (nums x.Data)).length:Int)<=64)) false) else k113 false) K)=K (decide (0<(Cd (nums x.Data)).length/\(Cd (nums x.Data)).length<=64)):=by
  intro K
  rw[AH]
  by_cases g1:0 < (Cd (nums x.Data)).length<;>by_cases g2:(Cd (nums x.Data)).length<=64<;>simp[g1,g2]<;>first | (intro;omega)|(rw[decide_eq_true (by omega)])|(rw[decide_eq_false (by omega)])|omega
 rw[e2,SC (by omega)]
 simp only[AH]
 by_cases g:x.Data.length≠0/\x.Data.length%12=0/\x.Data.length/12<=64
 ·rw[if_pos g,decide_eq_true (show 0<(Cd (nums x.Data)).length/\(Cd (nums x.Data)).length<=64 by omega),if_pos rfl,GB (by omega),QK (OC _ (RJ _)) (by omega)]
  rfl
 rw[if_neg g,decide_eq_false (show ¬ (0<(Cd (nums x.Data)).length/\(Cd (nums x.Data)).length<=64) by omega),if_neg (by decide)]
 rfl
end
end Go.AX.Q19
end
section
namespace Go.AX.Q19
open Go Go.AX
def KA (n:Int):Bool:=decide (1<=n)&&decide (n<=4294967295)
def PT (s:JAD):Bool:=decide (s.ASNs.length≠0)&&(s.ASNs.all KA&&chainB (fun a b=>!s.Set || ltI a b) s.ASNs)
def sgl (a b:JAD):Bool:=b.Set || a.Set
def tot (p:List JAD):Nat:=p.foldl (fun n s=>n+s.ASNs.length) 0
theorem Z4 (p:List JAD)(n:Nat):p.foldl (fun n s=>n+s.ASNs.length) n=n+tot p:=by
 unfold tot
 induction p generalizing n with
 | nil=>rfl
 | cons s t ih=>rw[List.foldl_cons,List.foldl_cons,ih,ih (0+_)];omega
theorem Ee (s:JAD)(p:List JAD):tot (s::p)=s.ASNs.length+tot p:=by
 conv=>lhs;unfold tot
 rw[List.foldl_cons,Z4];omega
theorem Nk (p q:List JAD):tot (p++q)=tot p+tot q:=by
 induction p with
 | nil=>rw[List.nil_append];exact (Nat.zero_add _).symm
 | cons s t ih=>rw[List.cons_append,Ee,Ee,ih];omega
theorem YB {p:List JAD}{s:JAD}(h:s∈p):s.ASNs.length<=tot p:=by
 induction p with
 | nil=>simp at h
 | cons x t ih=>
  rw[Ee]
  rcases List.mem_cons.1 h with rfl | h
  ·omega
  have:=ih h;omega
def GR (p:List JAD):Bool:=p.all PT&&chainB sgl p&&decide (tot p<=64)
theorem YQ :∀(p:List JAD) (n:Nat),n+tot p<=1000000000->p.foldl (fun (v:Int) s=>AN (v+(s.ASNs.length:Int))) (n:Int)=((n+tot p:Nat):Int)
 | [],n,_=>rfl
 | s::t,n,h=>by
  rw[Ee] at h
  rw[List.foldl_cons,Ee,AP (by omega),show (n:Int)+(s.ASNs.length:Int)=((n+s.ASNs.length:Nat):Int) by omega,YQ t _ (by omega)]
  congr 1
  omega
theorem Yx {s:JAD}(hl:s.ASNs.length<=1000000000){K:Unit->Option Bool}{body:(Unit->Option Bool)->Int->Nat->Unit->Option Bool}
  (hb :∀next x i,body next x i ()=AI (τ:=Bool) (fun k14=>if (!KA x)=true then k14 true else if s.Set=true then if (cond true (decide ((i:Int) > 0)) false)=true then Option.bind (geti s.ASNs (AN ((i:Int)-1))) fun v15=>k14 (cond false true (cond true (decide (v15 ≥ x)) false)) else k14 false else k14 false) fun v16=>if v16=true then some false else next ()) :
  Ao K body s.ASNs 0 ()=if s.ASNs.all KA&&chainB (fun a b=>!s.Set || ltI a b) s.ASNs then K () else some false:=by
 refine cY (by omega) (fun next x _=>?_) fun next x y i _ _ hg=>?_
 ·rw[hb,AH]
  cases KA x<;>cases s.Set<;>rfl
 rw[hb,AH,hg,AC]
 have e:decide (((i+1:Nat):Int) > 0)=true:=by simp
 have e2:decide (y ≥ x)=!ltI y x:=by unfold ltI;rw[X28];simp
 rw[e,e2]
 cases KA x<;>cases s.Set<;>cases ltI y x<;>rfl
theorem UA {p:List JAD}(hl:p.length<=1000000000)(ht:tot p<=1000000000){body:(Int->Option Bool)->JAD->Nat->Int->Option Bool}{inner:JAD->(Unit->Option Bool)->Int->Nat->Unit->Option Bool}
  (hb :∀next x i v,body next x i v=AI (τ:=Unit) (fun k6=>AI (τ:=Bool) (fun k7=>if ((x.ASNs.length:Int)==0)=true then k7 true else if (decide ((i:Int) > 0))=true then if (cond true (!x.Set) false)=true then Option.bind (geti p (AN ((i:Int)-1))) fun v8=>k7 (cond false true (cond true (!v8.Set) false)) else k7 false else k7 false) fun v9=>if v9=true then some false else AI (τ:=Unit) (fun k10=>Ao (σ:=Unit) (fun _=>k10 ()) (inner x) x.ASNs 0 ()) fun _=>k6 ()) fun _=>next (AN (v+(x.ASNs.length:Int))))
  (hi :∀s next x i,inner s next x i ()=AI (τ:=Bool) (fun k14=>if (!KA x)=true then k14 true else if s.Set=true then if (cond true (decide ((i:Int) > 0)) false)=true then Option.bind (geti s.ASNs (AN ((i:Int)-1))) fun v15=>k14 (cond false true (cond true (decide (v15 ≥ x)) false)) else k14 false else k14 false) fun v16=>if v16=true then some false else next ()) :
  (AI (τ:=Int) (fun k1=>Ao (σ:=Int) (fun v=>k1 v) body p 0 0) fun v=>some (decide (v<=64)))=some (GR p):=by
 rw[AH]
 have hin :∀s∈p,∀K:Unit->Option Bool,Ao K (inner s) s.ASNs 0 ()=if s.ASNs.all KA&&chainB (fun a b=>!s.Set || ltI a b) s.ASNs then K () else some false:=fun s hs K=>Yx (by have:=YB hs;omega) (hi s)
 refine (e9 (g:=fun (v:Int) s=>AN (v+(s.ASNs.length:Int))) (ok:=PT) (lt:=sgl) (F:=some false) (by omega) (fun next x v hx=>?_) fun next x y i v hx _ hg=>?_).trans ?_
 ·rw[hb,AH,AH]
  unfold PT
  by_cases h0:x.ASNs.length=0
  ·have e:((x.ASNs.length:Int)==0)=true:=by simp[h0]
   rw[if_pos e]
   simp[h0]
  have e:¬ ((x.ASNs.length:Int)==0)=true:=by simpa using h0
  rw[if_neg e,if_neg (by simp)]
  show (if false=true then _ else _)=_
  rw[if_neg (by decide),AH,hin x hx]
  simp only[h0,ne_eq,not_false_eq_true,decide_true,Bool.true_and]
 ·rw[hb,AH,AH,hg]
  unfold PT sgl
  by_cases h0:x.ASNs.length=0
  ·have e:((x.ASNs.length:Int)==0)=true:=by simp[h0]
   rw[if_pos e]
   simp[h0]
  have e:¬ ((x.ASNs.length:Int)==0)=true:=by simpa using h0
  have e2:decide (((i+1:Nat):Int) > 0)=true:=by simp
  rw[if_neg e,if_pos e2,AC,AH,hin x hx]
  simp only[h0,ne_eq,not_false_eq_true,decide_true,Bool.true_and]
  generalize (x.ASNs.all KA&&chainB (fun a b=>!x.Set || ltI a b) x.ASNs)=c
  cases x.Set<;>cases y.Set<;>cases c<;>rfl
 have hs:=YQ p 0 (by omega)
 rw[Nat.zero_add] at hs
 have hs:p.foldl (fun (v:Int) s=>AN (v+(s.ASNs.length:Int))) 0=(tot p:Int):=hs
 rw[hs]
 unfold GR
 have e:decide ((tot p:Int)<=64)=decide (tot p<=64):=by rw[X28];simp;omega
 simp only[e]
 generalize (p.all PT&&chainB sgl p)=c
 cases c<;>rfl
theorem Hw {p:List JAD}(hl:p.length<=1000000000)(ht:tot p<=1000000000):Eo p=some (GR p):=by
 unfold Eo
 refine UA hl ht (fun next x i v=>rfl) fun s next x i=>?_
 have e:(!KA x)=(decide (x < 1) || decide (x > 4294967295)):=by unfold KA;rw[X28];simp<;>omega
 rw[AH,AH,e]
 cases decide (x < 1)<;>cases decide (x > 4294967295)<;>rfl
theorem Jr {p:List JAD}(hl:p.length<=1000000000)(ht:tot p<=1000000000):FV p=some (GR p):=by
 unfold FV
 refine UA hl ht (fun next x i v=>rfl) fun s next x i=>?_
 rw[number_eq]
 rfl
theorem On {p:List JAD}(hl:p.length<=1000000000)(ht:tot p<=1000000000):L6 p=GR p:=by
 unfold L6
 rw[Hw hl ht];rfl
theorem Pm (p:List JAD)(b:Bool){m:List Int}(hm:m.length<=1000000):(Gw p b m).length<=p.length+1/\tot (Gw p b m)<=tot p+m.length:=by
 unfold Gw
 cases b
 ·simp only[Bool.false_eq_true,if_false]
  rcases List.eq_nil_or_concat p with rfl | ⟨q,s,rfl⟩
  ·exact⟨by simp,by simp[tot]⟩
  rw[List.concat_eq_append]
  simp only[List.getLast?_concat,List.dropLast_concat]
  split
  ·rw[Nk,Ee]
   exact⟨by simp,by simp[tot]⟩
  rw[Nk,Ee,Nk,Ee]
  exact⟨by simp,by simp[tot];omega⟩
 simp only[if_true]
 rw[Nk,Ee]
 have:=YU hm
 exact⟨by simp,by simp only[tot,List.foldl_nil];omega⟩
theorem RO :∀(n:Nat) (b:List UInt8) (p q:List JAD),b.length<=1000000->J7 n b p=some q->q.length<=p.length+b.length/\tot q<=tot p+b.length
 | n,[],p,q,_,h=>by
  rw[O6] at h
  obtain rfl:=X25 h
  exact⟨Nat.le_refl _,Nat.le_refl _⟩
 | n+1,[x],p,q,_,h=>by simp[J7] at h
 | n+1,k::c::t,p,q,hb,h=>by
  simp only[X12] at hb
  simp only[J7] at h
  split at h
  ·cases h
  rename_i hk
  have h1:=RO n _ _ _ (by simp only[X17];omega) h
  have hn:(nums (t.take (4*c.toNat))).length=c.toNat:=by rw[HK,X18];omega
  have hc:=c.toNat_lt
  have h2:=Pm p (k.toNat==1) (m:=nums (t.take (4*c.toNat))) (by omega)
  simp only[X17] at h1
  simp only[X12]
  omega
 | 0,x::b,p,q,_,h=>by
  have:J7 0 (x::b) p=none:=by cases b<;>rfl
  rw[this] at h;simp at h
theorem aX {b:List UInt8}{q:List JAD}(hb:b.length<=1000000)(h:rdL b []=some q):q.length<=1000000/\tot q<=1000000:=by
 have:=RO _ _ _ _ hb h
 simp only[X13,tot,List.foldl_nil] at this
 unfold tot
 omega
section
variable {ρ:Type} {F:Option ρ} {next:Int×Bool×UInt64×UInt64×Int×Int×Int×(List JAD)×(List JAB)×(List JAF)->Option ρ} {x:JAA} {a:JAC}
theorem cg (hd:x.Data.length<=1000000)(h:x.Type_=2)(e:fl x.Type_=64)(hp:a.Path=[]):Ek F next x (toP a)=match stepS a x with | none=>F | some a'=>next (toP a'):=by
 have er :∀d,I9 a 2 d=(Og d).map fun v=>{ a with Path:=v }:=fun _=>rfl
 unfold Ek toP stepS
 dsimp only
 rw[AH,if_neg (by rw[h];decide),if_pos (by rw[h];rfl),AH,Ba x (by rw[e];decide),if_neg (by rw[e];decide),h,AC,er]
 by_cases hr:Eu x=true
 rotate_left
 ·have hr:Eu x=false:=by simpa using hr
  rw[hr]
  rfl
 have ck:chk (([]:List JAD)=[])=some ():=by unfold chk;rw[if_pos rfl]
 rw[hr,if_neg (by decide),AH,AH,hp,ck,AC]
 refine (DW (fun s:List UInt8×List JAD×Nat×List Int=>Lk s.2.1 s.2.2.1 s.2.2.2/\(s.1.length+s.2.1.length<=1000000/\s.1.length+tot s.2.1<=1000000)/\s.1.length+s.2.2.2.length<=1000000) (fun s=>s.1.length)
  (fun s=>match rdL s.1 s.2.1 with | none=>F | some p=>if L6 p=true then next (toP { a with Path:=p }) else F) ?_ fuel (x.Data,[],0,[]) ⟨.inl rfl,by simpa[tot] using hd,by simpa using hd⟩ (B2 (by simp only;omega))).trans ?_
 rotate_left
 ·unfold Og
  dsimp only
  cases rdL x.Data [] with
  | none=>rfl
  | some p=>
   rw[Option.bind_some]
   show (if L6 p=true then _ else _)=_
   cases L6 p<;>rfl
 rintro next' ⟨b,p,i,l⟩ ⟨h1,⟨h2,h2'⟩,h3⟩ hn
 dsimp only at h1 h2 h2' h3 ⊢
 match b,h2,h2',h3,hn with
 | [],h2,h2',_,_=>
  rw[Yb,if_neg (by simp),Jr (by omega) (by simp only[X13] at h2';omega),AC]
  show _=(if L6 p=true then next (toP { a with Path:=p }) else F)
  simp only[X13] at h2 h2'
  rw[On (by omega) (by omega)]
  cases GR p<;>rfl
 | [x],_,_,_,_=>rfl
 | k::c::t,h2,h2',h3,hn=>
  simp only[X12] at h2 h2' h3
  rw[if_pos (by simp;omega),Vu,aD (by omega)]
  by_cases hb:Ks k c t=true
  ·rw[if_pos hb,if_pos hb]
   rfl
  rw[if_neg hb,if_neg hb]
  have hb':(k.toNat=1\/k.toNat=2)/\1<=c.toNat/\4*c.toNat<=t.length:=by
   simp only[Ks,decide_eq_true_eq] at hb
   omega
  obtain⟨b1,b2,b3⟩:=hb'
  have hc:=c.toNat_lt
  have epart:part (k::c::t) 2 ((2+4*c.toNat:Nat):Int)=some (t.take (4*c.toNat)):=by
   rw[show (2:Int)=((2:Nat):Int) by rfl,Ed (by omega) (by simp;omega)]
   rw[List.drop_succ_cons,List.drop_succ_cons,List.drop_zero,show 2+4*c.toNat-2=4*c.toNat by omega]
  rw[Ud,AC,Q7,AC,fP,epart,AC,Ep (by simp;omega),AC,ZA b3,AC]
  have hnl:(nums (t.take (4*c.toNat))).length=c.toNat:=by rw[HK,X18];omega
  generalize hm:nums (t.take (4*c.toNat))=m at *
  have hdl:(t.drop (4*c.toNat)).length=t.length-4*c.toNat:=X17
  have hsl:=YU (l:=m) (by omega)
  have hsz:=Pm p (k.toNat==1) (m:=m) (by omega)
  have hsort :∀K:List Int->Option ρ,AI (τ:=List Int) (fun k50=>if ((k.toNat:Int)==1)=true then Option.bind (Lm m) fun v51=>Option.bind (Bh v51) fun v52=>k50 v52 else k50 m) K=K (if k.toNat=1 then srt m else m):=by
   intro K
   rw[AH]
   by_cases b1:k.toNat=1
   ·rw[if_pos (by simp[b1]),if_pos b1];exact R9 (by omega)
   rw[if_neg (by simp;omega),if_neg b1]
  rw[hsort]
  rcases b1 with b1 | b1
  ·have e:(k.toNat==1)=true:=by rw[b1];rfl
   have e1:((k.toNat:Int)==1)=true:=by rw[b1];rfl
   rw[e,QS] at hsz
   have ef :∀K:Bool->Option ρ,AI (τ:=Bool) (fun k54=>if (decide ((AN ((p.length:Int)-1)) ≥ 0))=true then if (cond true (!true) false)=true then Option.bind (geti p (AN ((p.length:Int)-1))) fun v55=>k54 (cond true (!v55.Set) false) else k54 false else k54 false) K=K false:=by
    intro K
    rw[AH]
    split<;>rfl
   rw[if_pos b1,e1,ef,AH,if_neg (by decide),AO (by decide) (by simp;omega),AC,e,QS]
   exact hn (t.drop (4*c.toNat),p++[⟨true,srt m⟩],(List.map JAD.toD p).length+0,srt m) ⟨.inr ⟨p,true,rfl,by simp⟩,⟨by simp only[X11,X22,hdl];omega,by simp only[hdl];omega⟩,by simp only[hdl];omega⟩ (by simp only[hdl,X12];omega)
  have e:(k.toNat==1)=false:=by rw[b1];rfl
  have e1:((k.toNat:Int)==1)=false:=by rw[b1];rfl
  rw[e] at hsz
  have ef :∀K:Bool->Option ρ,AI (τ:=Bool) (fun k54=>if (decide ((AN ((p.length:Int)-1)) ≥ 0))=true then if (cond true (!false) false)=true then Option.bind (geti p (AN ((p.length:Int)-1))) fun v55=>k54 (cond true (!v55.Set) false) else k54 false else k54 false) K=K (match p.getLast? with | some s=>!s.Set | none=>false):=by
   intro K
   have hlast:=cr (p:=p) (by omega) K
   refine Eq.trans ?_ hlast
   rw[AH,AH]
   have:decide (AN ((p.length:Int)-1) ≥ 0)=decide ((p.length:Int) > 0):=by rw[AP (by omega),X28];simp;omega
   rw[this]
   split<;>rfl
  rw[if_neg (by omega),e1,ef,AH,e]
  rcases h1 with rfl | ⟨q,s,rfl,rfl⟩
  ·rw[if_neg (by simp),AO (by decide) (by simp),AC,RV]
   rw[RV] at hsz
   exact hn (t.drop (4*c.toNat),[⟨false,m⟩],(List.map JAD.toD []).length+0,m) ⟨.inr ⟨[],false,rfl,rfl⟩,⟨by simp only[X22,hdl];simp only[X13] at h2;omega,by simp only[hdl];omega⟩,by simp only[hdl];omega⟩ (by simp only[hdl,X12];omega)
  simp only[X11,X22] at h2
  cases s
  ·rw[PP] at hsz
   rw[if_pos (by simp),Xx (by omega),NG,AC]
   rw[Int.toNat_natCast]
   have ck:chk (q.length=q.length)=some ():=by unfold chk;rw[if_pos rfl]
   rw[ck,AC,AO (by decide) (by omega),AC,AC,cA,AC,PP]
   exact hn (t.drop (4*c.toNat),q++[⟨false,l++m⟩],q.length,l++m) ⟨.inr ⟨q,false,rfl,rfl⟩,⟨by simp only[X11,X22,hdl];omega,by simp only[hdl];omega⟩,by simp only[hdl,X11];omega⟩ (by simp only[hdl,X12];omega)
  rw[Js] at hsz
  rw[if_neg (by simp),AO (by decide) (by simp;omega),AC,Js]
  exact hn (t.drop (4*c.toNat),q++[⟨true,l⟩]++[⟨false,m⟩],(List.map JAD.toD (q++[⟨true,l⟩])).length+0,m) ⟨.inr ⟨q++[⟨true,l⟩],false,rfl,by simp⟩,⟨by simp only[X11,X22,hdl];omega,by simp only[hdl];omega⟩,by simp only[hdl];omega⟩ (by simp only[hdl,X12];omega)
end
end Go.AX.Q19
end
section
namespace Go.AX.Q19
open Go Go.AX
section
variable {ρ:Type} {F:Option ρ} {next:Int×(List JAD)×Bool×UInt64×UInt64×Int×Int×Int×(List JAB)×(List JAF)->Option ρ} {x:JAA} {a:JAC}
end
end Go.AX.Q19
end
section
namespace Go.AX.Q19
open Go Go.AX
def Da (l:List JAA)(t:Int):Bool:=l.any fun y=>t==y.Type_
def BN (l:List JAA):List JAA:=l.foldl (fun acc x=>if Da acc x.Type_ then acc else acc++[x]) []
theorem JE (l:List JAA)(x:JAA):BN (l++[x])=if Da (BN l) x.Type_ then BN l else BN l++[x]:=by
 unfold BN
 rw[List.foldl_append]
 rfl
theorem II {l:List JAA}{t:Int}:Da l t=true ↔∃y∈l,y.Type_=t:=by
 unfold Da
 rw[List.any_eq_true]
 simp only[beq_iff_eq]
 exact⟨fun ⟨y,h1,h2⟩=>⟨y,h1,h2.symm⟩,fun ⟨y,h1,h2⟩=>⟨y,h1,h2.symm⟩⟩
theorem N6 (l m:List JAA)(t:Int):Da (l++m) t=(Da l t || Da m t):=by unfold Da;rw[List.any_append]
def Ip (l:List JAA):Prop:=l.Pairwise fun a b=>a.Type_≠b.Type_
theorem FK (l:List JAA):Ip (BN l)/\(∀x∈BN l,x∈l)/\(∀t,Da (BN l) t=Da l t)/\(BN l).length<=l.length:=by
 rw[<- List.reverse_reverse l]
 generalize l.reverse=m
 induction m with
 | nil=>exact⟨.nil,by simp[BN],fun t=>rfl,Nat.le_refl _⟩
 | cons x t ih=>
  obtain⟨h1,h2,h3,h4⟩:=ih
  rw[List.reverse_cons,JE]
  by_cases hx:Da (BN t.reverse) x.Type_=true
  ·rw[if_pos hx]
   refine⟨h1,fun y hy=>List.mem_append_left _ (h2 y hy),fun u=>?_,by simp only[X11];omega⟩
   rw[h3 u,N6]
   by_cases hu:u=x.Type_
   ·subst hu
    rw[<- h3,hx];rfl
   have:Da [x] u=false:=by unfold Da;simp[hu]
   rw[this,Bool.or_false]
  rw[if_neg hx]
  refine⟨List.pairwise_append.2 ⟨h1,by simp,fun a ha b hb e=>?_⟩,fun y hy=>?_,fun u=>by rw[N6,N6,h3],by simp only[X11,X22];omega⟩
  ·rw[X14] at hb
   subst hb
   exact hx (II.2 ⟨a,ha,e⟩)
  rcases X23.1 hy with hy | hy
  ·exact List.mem_append_left _ (h2 y hy)
  exact List.mem_append_right _ hy
theorem OI {l:List JAA}(h:Ip l):BN l=l:=by
 rw[<- List.reverse_reverse l] at h ⊢
 generalize l.reverse=m at h ⊢
 induction m with
 | nil=>rfl
 | cons x t ih=>
  rw[List.reverse_cons] at h ⊢
  obtain⟨h1,_,h3⟩:=List.pairwise_append.1 h
  rw[JE,ih h1,if_neg]
  intro q
  obtain⟨y,hy,e⟩:=II.1 q
  exact h3 y hy x (by simp) e
theorem bT {l:List JAA}(hl:l.length<=1000000):Dc l=some (BN l):=by
 have:Ok (Dc l) fun r=>r=BN l:=by
  unfold Dc
  refine .join (fun r=>r=BN l) (fun k hk=>?_) fun r hr=>.ret hr
  refine .forX (fun i s=>s.2=BN (l.take i)/\∀t,(BB s.1 t).getD false=Da s.2 t) ⟨rfl,fun t=>rfl⟩ (fun s hs=>hk _ (by rw[hs.1,List.take_length])) ?_
  rintro next x i ⟨m,o⟩ hx ⟨h1,h2⟩ hn
  dsimp only at h1 h2
  have hil:=(X16.1 hx).1
  have hlen:=(FK (l.take i)).2.2.2
  rw[<- h1,X18] at hlen
  have e:l.take (i+1)=l.take i++[x]:=by rw[List.take_add_one,hx];rfl
  have hs:=JE (l.take i) x
  rw[<- e,<- h1] at hs
  refine .bind (P:=fun v=>v=Da o x.Type_) ⟨_,rfl,h2 _⟩ fun v hv=>?_
  subst hv
  refine .join (fun r=>r=BN (l.take (i+1))/\∀t,Da r t=(t==x.Type_ || Da o t)) (fun k hk=>.ite (fun hc=>.bind (Ok.apnd (by decide) (by simp;omega)) fun r hr=>hk r ?_) fun hc=>hk o ?_) fun r hr=>hn _ ⟨hr.1,fun t=>?_⟩
  ·have hc:Da o x.Type_=false:=by simpa using hc
   rw[hc,if_neg (by decide)] at hs
   rw[hs,hr]
   refine⟨rfl,fun t=>?_⟩
   rw[N6,Bool.or_comm]
   unfold Da;simp
  ·have hc:Da o x.Type_=true:=by simpa using hc
   rw[hc,if_pos rfl] at hs
   rw[hs]
   refine⟨rfl,fun t=>?_⟩
   by_cases ht:t=x.Type_
   ·subst ht;rw[hc];simp
   have:(t==x.Type_)=false:=by simpa using ht
   rw[this];rfl
  dsimp only
  rw[hr.2,mget_mset,<- h2]
  cases (t==x.Type_)<;>rfl
 obtain⟨r,h1,h2⟩:=this
 rw[h1,h2]
def KQ:JAC->List JAA->Option JAC
 | a,[]=>some a
 | a,x::t=>(stepS a x).bind fun a'=>KQ a' t
structure Fit (l:List JAA)(a:JAC):Prop where
 d:Ip l
 z :∀x∈l,x.Data.length<=1000000
 p :∀x∈l,x.Type_=2->a.Path=[]
 c :∀x∈l,x.Type_=8->a.Communities=[]
 l :∀x∈l,x.Type_=32->a.JAF=[]
theorem VV {a a':JAC}{x:JAA}(h:stepS a x=some a'):(x.Type_≠2->a'.Path=a.Path)/\(x.Type_≠8->a'.Communities=a.Communities)/\(x.Type_≠32->a'.JAF=a.JAF)/\a'.Other=a.Other:=by
 unfold stepS at h
 split at h
 ·obtain rfl:=X25 h
  exact⟨fun _=>rfl,fun _=>rfl,fun _=>rfl,rfl⟩
 split at h
 ·unfold I9 at h
  rcases FH x.Type_ with ⟨e,_⟩|⟨e,_⟩|⟨e,_⟩|⟨e,_⟩|⟨e,_⟩|⟨e,_⟩|⟨e,_⟩|⟨e,_⟩|⟨e1,e2,e3,e4,e5,e6,e7,e8,_⟩
  iterate 8
   ·rw[e] at h ⊢
    obtain⟨v,_,rfl⟩:=Option.map_eq_some_iff.1 h
    exact⟨fun q=>by first | rfl | exact absurd rfl q,fun q=>by first | rfl | exact absurd rfl q,fun q=>by first | rfl | exact absurd rfl q,rfl⟩
  rw[if_neg e1,if_neg e2,if_neg e3,if_neg e4,if_neg e5,if_neg e6,if_neg e7,if_neg e8] at h
  obtain rfl:=X25 h
  exact⟨fun _=>rfl,fun _=>rfl,fun _=>rfl,rfl⟩
 simp at h
theorem Fit.next {x:JAA}{t:List JAA}{a a':JAC}(f:Fit (x::t) a)(h:stepS a x=some a'):Fit t a':=by
 obtain⟨k1,k2,k3,_⟩:=VV h
 obtain⟨d1,d2⟩:=List.pairwise_cons.1 f.d
 exact⟨d2,fun y hy=>f.z y (X19 _ hy),fun y hy e=>(k1 (e ▸ d1 y hy)).trans (f.p y (X19 _ hy) e),
  fun y hy e=>(k2 (e ▸ d1 y hy)).trans (f.c y (X19 _ hy) e),fun y hy e=>(k3 (e ▸ d1 y hy)).trans (f.l y (X19 _ hy) e)⟩
theorem Zn {ρ:Type}{F:Option ρ}{next:Int×Bool×UInt64×UInt64×Int×Int×Int×(List JAD)×(List JAB)×(List JAF)->Option ρ}{x:JAA}{a:JAC}{t:List JAA}(f:Fit (x::t) a):Ek F next x (toP a)=match stepS a x with | none=>F | some a'=>next (toP a'):=by
 have hd:=f.z x (by simp)
 rcases FH x.Type_ with ⟨h,e⟩|⟨h,e⟩|⟨h,e⟩|⟨h,e⟩|⟨h,e⟩|⟨h,e⟩|⟨h,e⟩|⟨h,e⟩|⟨h1,h2,h3,h4,h5,h6,h7,h8,e⟩
 ·exact bz h e
 ·exact cg hd h e (f.p x (by simp) h)
 ·exact ci h e
 ·exact cM h e
 ·exact ct h e
 ·exact bp hd h e
 ·exact ZZ hd h e
 ·exact aH h e
 exact cC ⟨h1,h2,h3,h4,h5,h6,h7,h8⟩ e
theorem dB {ρ:Type}{F:Option ρ}{K:Int×Bool×UInt64×UInt64×Int×Int×Int×(List JAD)×(List JAB)×(List JAF)->Option ρ} :∀(l:List JAA) (i:Nat) (a:JAC),Fit l a->Ao K (fun next x _ s=>Ek F next x s) l i (toP a)=match KQ a l with | none=>F | some a'=>K (toP a')
 | [],_,_,_=>rfl
 | x::t,i,a,f=>by
  show Ek F (fun s=>Ao K (fun next x _ s=>Ek F next x s) t (i+1) s) x (toP a)=_
  rw[Zn f]
  unfold KQ
  cases h:stepS a x with
  | none=>rfl
  | some a'=>exact dB t (i+1) a' (f.next h)
def I3 (x:JAA):Bool:=unk x.Type_&&(decide (1<=x.Type_/\x.Type_<=255)&&(bt x.Flags 64 != 0&&decide (x.Data.length<=255)))
def conv (x:JAA):JAA:=⟨224,x.Type_,x.Data⟩
def F8 (l:List JAA):List JAA:=(List.range' 1 255).flatMap fun (k:Nat)=>l.flatMap fun x=>if (x.Type_==(k:Int)&&I3 x)=true then [conv x] else []
def HZ (x:JAA):List Int:=[x.Type_]
theorem Fh (a b:JAA):(HZ a).length=(HZ b).length:=rfl
theorem UF {l:List JAA}{y:JAA}:y∈F8 l ↔∃x∈l,I3 x=true/\y=conv x:=by
 unfold F8
 simp only[List.mem_flatMap,List.mem_range'_1]
 constructor
 ·rintro⟨k,hk,x,hx,h⟩
  split at h
  ·rename_i hc
   simp only[X27] at hc
   exact⟨x,hx,hc.2,by simpa using h⟩
  simp at h
 rintro⟨x,hx,hk,rfl⟩
 have hk':=hk
 simp only[I3,X27,decide_eq_true_eq] at hk'
 refine⟨x.Type_.toNat,by omega,x,hx,?_⟩
 rw[if_pos]
 ·simp
 rw[hk,Bool.and_true,beq_iff_eq];omega
theorem OQ {α:Type}{R:α->α->Prop}{c:Bool}{x:α}:(if c=true then [x] else []).Pairwise R:=by
 cases c
 ·exact .nil
 exact List.pairwise_singleton _ _
theorem M4 {l:List JAA}(h:Ip l):(F8 l).Pairwise fun a b=>ltK HZ a b=true:=by
 unfold F8
 rw[List.pairwise_flatMap]
 have hm :∀(k:Nat) (x y:JAA),y∈(if (x.Type_==(k:Int)&&I3 x)=true then [conv x] else [])->y.Type_=k/\x.Type_=k:=by
  intro k x y hy
  split at hy
  ·rename_i hc
   simp only[X27,beq_iff_eq] at hc
   rw[X14] at hy
   subst hy
   exact⟨hc.1,hc.1⟩
  simp at hy
 constructor
 ·intro k _
  rw[List.pairwise_flatMap]
  refine⟨fun x _=>OQ,h.imp fun {a b} hab x hx y hy=>?_⟩
  exact absurd ((hm k a x hx).2.trans (hm k b y hy).2.symm) hab
 refine (List.pairwise_lt_range' (s:=1) (n:=255)).imp fun {a b} hab x hx y hy=>?_
 obtain⟨x1,_,hx1⟩:=List.mem_flatMap.1 hx
 obtain⟨y1,_,hy1⟩:=List.mem_flatMap.1 hy
 have e1:=(hm a x1 x hx1).1
 have e2:=(hm b y1 y hy1).1
 unfold ltK HZ
 rw[decide_eq_true_eq,To,if_pos (by omega)]
 decide
def Sm (l:List JAA):Prop:=l.length<=1000000/\∀x∈l,x.Data.length<=1000000
def P5 (x:JAA):Bool:=unk x.Type_&&bt x.Flags 128==0
def zA:JAC:=⟨0,[],(⟨false,(0:UInt64),(0:UInt64)⟩:Addr),0,0,0,[],[],[]⟩
def eA:JAC:=⟨(-1),[],(⟨false,(0:UInt64),(0:UInt64)⟩:Addr),(-1),(-1),(-1),[],[],[]⟩
def rdS (l:List JAA):JAC×Int:=
 if (BN l).any P5=true then (zA,12) else match KQ eA (BN l) with
 | none=>(zA,13)
 | some a=>if (F8 (BN l)).length > 8 then (zA,3) else ({ a with Other:=F8 (BN l) },0)
theorem Zu (x:JAA):Df x=some (P5 x):=by
 unfold Df P5
 rw[AH,D3,AC]
 show (if unk x.Type_=true then some (cond true (bt x.Flags 128==0) false) else some false)=_
 cases unk x.Type_<;>rfl
theorem VM (l:List JAA):Am l=some (l.any P5):=
 aO (f:=Df) (q:=P5) fun x _=>Zu x
theorem Yj {l:List JAA}(h:Sm l):Fit (BN l) eA:=
 ⟨(FK l).1,fun x hx=>h.2 x ((FK l).2.1 x hx),fun _ _ _=>rfl,fun _ _ _=>rfl,fun _ _ _=>rfl⟩
def NV (x:JAA):List JAA:=if I3 x=true then [conv x] else []
theorem V0 (x:JAA):(NV x).length<=1:=by unfold NV;split<;>simp
theorem KI {α β:Type}{g:α->List β}(hg :∀x,(g x).length<=1) :∀l:List α,(l.flatMap g).length<=l.length
 | []=>by simp
 | x::t=>by
  rw[List.flatMap_cons,X11,X12]
  have:=KI hg t
  have:=hg x
  omega
theorem bu {l:List JAA}{y:JAA}:y∈l.flatMap NV ↔∃x∈l,I3 x=true/\y=conv x:=by
 rw[List.mem_flatMap]
 constructor
 ·rintro⟨x,hx,h⟩
  unfold NV at h
  split at h
  ·exact⟨x,hx,‹_›,by simpa using h⟩
  simp at h
 rintro⟨x,hx,hk,rfl⟩
 refine⟨x,hx,?_⟩
 unfold NV
 rw[if_pos hk];simp
theorem bQ {l:List JAA}(h:Ip l):(l.flatMap NV).Pairwise fun a b=>HZ a≠HZ b:=by
 rw[List.pairwise_flatMap]
 refine⟨fun x _=>OQ,h.imp fun {a b} hab x hx y hy e=>?_⟩
 unfold NV at hx hy
 split at hx
 ·split at hy
  ·rw[X14] at hx hy
   subst hx hy
   exact hab (by simpa[HZ,conv] using e)
  simp at hy
 simp at hx
theorem Ru (a b:JAA):DX a b=some (Fb (HZ a) (HZ b)):=by
 unfold DX HZ
 rw[LL,AC]
 unfold ZY Fb Fb
 rfl
theorem Tv {l:List JAA}(h:Ip l)(hl:l.length<=1000000):EO DX (l.flatMap NV)=some (F8 l):=by
 have hlen:=KI V0 l
 obtain⟨r,h1,h2,h3⟩:=ND Fh Ru (l:=l.flatMap NV) (by omega)
 rw[h1]
 congr 1
 refine QH Fh (OU Fh h3 ?_) (M4 h) fun x=>?_
 ·exact (h2.pairwise_iff fun h e=>h e.symm).2 (bQ h)
 rw[h2.mem_iff,bu,UF]
theorem Yq {l:List JAA}(h:Ip l)(hl:l.length<=1000000):(F8 l).length=(l.flatMap NV).length:=by
 exact (G0 (Tv h hl))
theorem gY {l:List JAA}(hl:l.length<=1000000)(hz :∀x∈l,x.Data.length<=1000000){ρ:Type}{K:List JAA->Option ρ} :
  Ao (σ:=List JAA) K (fun next x _ v=>
   AI (τ:=Bool) (fun k198=>
      Option.bind (BV x.Type_) fun v199=>
      if v199=true then
       Option.bind (A8 x.Type_ 1 255) fun v200=>
       if (cond true v200 false)=true then
        if (cond true ((AN ((BitVec.ofInt 64 x.Flags &&& BitVec.ofInt 64 64).toNat:Int)) != 0) false)=true then
         k198 (cond true (decide ((x.Data.length:Int)<=255)) false)
        else
         k198 false
       else
        k198 false
      else
       k198 false
     ) fun v201=>
     AI (τ:=(List JAA)) (fun k202=>
      if v201=true then
       Option.bind (A7 x.Data) fun v203=>
       Option.bind (apnd (α:=JAA) 40 v ([(⟨224,x.Type_,v203⟩:JAA)]:List JAA)) fun v204=>
       k202 v204
      else
       k202 v
     ) fun v205=>
     next v205) l 0 []=K (l.flatMap NV):=by
 have hlen:=KI V0 l
 refine (Rn (g:=NV) (N:=1000000) (by simp only[X13];omega) fun next x i v hx hv=>?_).trans (by rw[List.nil_append])
 have hc :∀k:Bool->Option ρ,AI (τ:=Bool) (fun k198=>
      Option.bind (BV x.Type_) fun v199=>
      if v199=true then
       Option.bind (A8 x.Type_ 1 255) fun v200=>
       if (cond true v200 false)=true then
        if (cond true ((AN ((BitVec.ofInt 64 x.Flags &&& BitVec.ofInt 64 64).toNat:Int)) != 0) false)=true then
         k198 (cond true (decide ((x.Data.length:Int)<=255)) false)
        else
         k198 false
       else
        k198 false
      else
       k198 false
     ) k=k (I3 x):=by
  intro k
  unfold I3
  have d1:(AN ((BitVec.ofInt 64 x.Flags &&& BitVec.ofInt 64 64).toNat:Int))=bt x.Flags 64:=rfl
  have d2:decide ((x.Data.length:Int)<=255)=decide (x.Data.length<=255):=by rw[X28];simp;omega
  have d3:decide (1<=x.Type_/\x.Type_<=255)=(decide (1<=x.Type_)&&decide (x.Type_<=255)):=by rw[X28];simp
  rw[AH,D3,AC,GH,AC,d1,d2,d3]
  cases unk x.Type_<;>cases decide (1<=x.Type_)<;>cases decide (x.Type_<=255)<;>cases (bt x.Flags 64 != 0)<;>cases decide (x.Data.length<=255)<;>rfl
 rw[hc,AH]
 unfold NV at hv ⊢
 by_cases hk:I3 x=true
 ·rw[if_pos hk] at hv
  have:=hz x hx
  simp only[X22] at hv
  rw[if_pos hk,if_pos hk]
  unfold A7
  rw[AO (by decide) (by simp;omega),AC,AC,List.nil_append,AO (by decide) (by simp;omega),AC]
  rfl
 rw[if_neg hk,if_neg hk,List.append_nil]
theorem V4 {l:List JAA}(h:Sm l):EG l=some (rdS l):=by
 obtain⟨h1,h2⟩:=h
 have hlen:=(FK l).2.2.2
 have hm:=(FK l).2.1
 unfold EG rdS
 rw[bT h1,AC,VM,AC]
 by_cases hb:(BN l).any P5=true
 ·rw[if_pos hb,if_pos hb];rfl
 rw[if_neg hb,if_neg hb,AH,AH]
 rw[AH]
 refine (dB (BN l) 0 eA (Yj ⟨h1,h2⟩)).trans ?_
 cases hf:KQ eA (BN l) with
 | none=>rfl
 | some a=>
  show (if (!true)=true then _ else AI _ _)=_
  rw[if_neg (by decide),AH]
  refine (gY (l:=BN l) (by omega) fun x hx=>h2 x (hm x hx)).trans ?_
  have hk:=Yq (l:=BN l) (FK l).1 (by omega)
  show (if decide (((List.flatMap NV (BN l)).length:Int) > 8)=true then _ else _)=_
  by_cases h8:(F8 (BN l)).length > 8
  ·rw[if_pos (by simp only[decide_eq_true_eq];omega)]
   show _=some (if (F8 (BN l)).length > 8 then _ else _)
   rw[if_pos h8];rfl
  rw[if_neg (by simp only[decide_eq_true_eq];omega),Tv (FK l).1 (by omega),AC]
  show _=some (if (F8 (BN l)).length > 8 then _ else _)
  rw[if_neg h8]
def hd4 (x:UInt8):Bool:=(((Aa ((BitVec.ofInt 8 (x.toNat:Int) &&& BitVec.ofInt 8 16).toNat:Int)).toNat:Int) != 0)
def hdN (x:UInt8):Nat:=if hd4 x=true then 4 else 3
def flagsOf (x:UInt8):Int:=((Aa ((BitVec.ofInt 8 (x.toNat:Int) &&& BitVec.ofInt 8 224).toNat:Int)).toNat:Int)
def sizeOf (b:List UInt8)(h:Nat):Nat:=val ((b.drop 2).take (h-2))
def stp (x:UInt8)(t:List UInt8):Option (JAA×List UInt8):=
 if (x::t).length<hdN x\/(x::t).length-hdN x<sizeOf (x::t) (hdN x) then none else
  some (⟨flagsOf x,((t.headD 0).toNat:Int),((x::t).drop (hdN x)).take (sizeOf (x::t) (hdN x))⟩,(x::t).drop (hdN x+sizeOf (x::t) (hdN x)))
def spl:Nat->List UInt8->List JAA->Option (List JAA)
 | _,[],acc=>some acc
 | n+1,x::t,acc=>match stp x t with
  | none=>none
  | some (u,r)=>spl n r (acc++[u])
 | 0,_::_,_=>none
theorem Zc (x:UInt8):hdN x=4\/hdN x=3:=by unfold hdN;split<;>simp
theorem UV {x:UInt8}{t:List UInt8}{u:JAA}{r:List UInt8}(h:stp x t=some (u,r)):r.length+3<=(x::t).length/\u.Data.length+r.length<=(x::t).length:=by
 unfold stp at h
 split at h
 ·cases h
 rename_i hc
 simp only[X24,X26] at h
 obtain⟨rfl,rfl⟩:=h
 have:=Zc x
 simp only[X17,X18,X12] at hc ⊢
 omega
theorem Ut (n:Nat)(acc:List JAA):spl n [] acc=some acc:=by cases n<;>rfl
theorem Vv :∀(n m:Nat) (b:List UInt8) (acc:List JAA),b.length<=n->b.length<=m->spl n b acc=spl m b acc
 | n,m,[],acc,_,_=>by rw[Ut,Ut]
 | n+1,m+1,x::t,acc,h1,h2=>by
  simp only[spl]
  cases h:stp x t with
  | none=>rfl
  | some p=>
   obtain⟨u,r⟩:=p
   have:=(UV h).1
   exact Vv n m r _ (by omega) (by omega)
 | 0,_,_::_,_,h,_=>by simp at h
 | _,0,_::_,_,_,h=>by simp at h
def P3 (b:List UInt8)(acc:List JAA):Option (List JAA):=spl b.length b acc
theorem TN (x:UInt8)(t:List UInt8)(acc:List JAA):P3 (x::t) acc=match stp x t with | none=>none | some (u,r)=>P3 r (acc++[u]):=by
 unfold P3
 rw[X12]
 simp only[spl]
 cases h:stp x t with
 | none=>rfl
 | some p=>
  obtain⟨u,r⟩:=p
  have:=(UV h).1
  simp only[X12] at this
  exact Vv _ _ r _ (by omega) (by omega)
def ac (b:List UInt8):List JAA×Int:=match P3 b [] with
 | none=>([],12)
 | some l=>(l,0)
theorem Zq {b:List UInt8}{h:Nat}(hh:h=4\/h=3)(hb:h<=b.length):Eg ((b.drop 2).take (h-2))=(sizeOf b h:Int)/\sizeOf b h<65536:=by
 unfold sizeOf
 have hl:((b.drop 2).take (h-2)).length=h-2:=by simp only[X18,X17];omega
 refine⟨GY (by omega),?_⟩
 have:=MO ((b.drop 2).take (h-2))
 rw[hl] at this
 rcases hh with rfl | rfl
 ·exact this
 have h2:(256:Nat)^(3-2)=256:=rfl
 omega
theorem dW {b:List UInt8}{h:Nat}(h2:2<=h)(hb:h<=b.length):part b 2 (h:Int)=some ((b.drop 2).take (h-2)):=Ed (l:=b) (a:=2) (b:=h) h2 hb
theorem Wx {b:List UInt8}(hb:b.length<=1000000):Ef b=some (ac b):=by
 unfold Ef
 rw[AH]
 refine (DW (fun s:List UInt8×List JAA=>s.1.length+s.2.length<=1000000) (fun s=>s.1.length) (fun s=>some (match P3 s.1 s.2 with | none=>([],12)|some l=>(l,0))) ?_ fuel (b,[]) (by simpa using hb) (B2 (by simp only;omega))).trans rfl
 rintro next ⟨b,acc⟩ hl hn
 dsimp only at hl ⊢
 match b,hl,hn with
 | [],_,_=>rfl
 | x::t,hl,hn=>
  have h0:geti (x::t) 0=some x:=Q7
  have hN:=Zc x
  have hjoin :∀K:Int->Option (List JAA×Int),AI (τ:=Int) (fun k6=>if (((Aa ((BitVec.ofInt 8 (x.toNat:Int) &&& BitVec.ofInt 8 16).toNat:Int)).toNat:Int) != 0)=true then k6 4 else k6 3) K=K (hdN x:Int):=by
   intro K
   rw[AH]
   unfold hdN
   show (if hd4 x=true then K 4 else K 3)=_
   cases hd4 x<;>rfl
  rw[if_pos (by simp),h0,AC,hjoin,TN,AH]
  simp only[X12] at hl
  by_cases c1:(x::t).length<hdN x
  ·have:stp x t=none:=by unfold stp;rw[if_pos (.inl c1)]
   rw[this,if_pos (by simp only[decide_eq_true_eq];omega)]
   rfl
  obtain⟨g1,g2⟩:=Zq hN (by omega:hdN x<=(x::t).length)
  have hp:=dW (b:=x::t) (h:=hdN x) (by omega) (by omega)
  rw[if_neg (by simp only[decide_eq_true_eq];omega),hp,AC,Ce,AC,g1,AP (x:=((x::t).length:Int)-(hdN x:Int)) (by simp only[X12];omega)]
  by_cases c2:(x::t).length-hdN x<sizeOf (x::t) (hdN x)
  ·have:stp x t=none:=by unfold stp;rw[if_pos (.inr c2)]
   have e:decide (((x::t).length:Int)-(hdN x:Int)<(sizeOf (x::t) (hdN x):Int))=true:=decide_eq_true (by omega)
   rw[this,e]
   rfl
  have hs:stp x t=some (⟨flagsOf x,((t.headD 0).toNat:Int),((x::t).drop (hdN x)).take (sizeOf (x::t) (hdN x))⟩,(x::t).drop (hdN x+sizeOf (x::t) (hdN x))):=by
   unfold stp
   rw[if_neg (fun q=>q.elim c1 c2)]
  have e:decide (((x::t).length:Int)-(hdN x:Int)<(sizeOf (x::t) (hdN x):Int))=false:=decide_eq_false (by omega)
  obtain⟨y,t2,rfl⟩ :∃y t2,t=y::t2:=by
   cases t with
   | nil=>simp at c1;omega
   | cons y t2=>exact⟨y,t2,rfl⟩
  simp only[X12] at hl
  have h1:geti (x::y::t2) 1=some y:=Ud
  rw[hs,e]
  show (if (cond false true false)=true then _ else _)=_
  have hp3:part (x::y::t2) (hdN x:Int) ((hdN x+sizeOf (x::y::t2) (hdN x):Nat):Int)=some (((x::y::t2).drop (hdN x)).take (sizeOf (x::y::t2) (hdN x))):=by
   rw[Ed (by omega) (by omega)]
   congr 2
   omega
  have hp4:part (x::y::t2) ((hdN x+sizeOf (x::y::t2) (hdN x):Nat):Int) ((x::y::t2).length:Int)=some ((x::y::t2).drop (hdN x+sizeOf (x::y::t2) (hdN x))):=IK (by omega)
  rw[if_neg (by decide),AC,Ce,AC,g1,AC,h1,AC,AP (by omega),show (hdN x:Int)+(sizeOf (x::y::t2) (hdN x):Int)=((hdN x+sizeOf (x::y::t2) (hdN x):Nat):Int) by omega,hp3,AC,
   AO (by decide) (by simp only[X13,X18,X17];omega),AC,AO (by decide) (by simp only[X22];omega),AC,hp4,AC]
  exact hn _ (by simp only[X11,X17,X12,X13];omega) (by simp only[X17,X12];omega)
theorem Vk :∀(n:Nat) (b:List UInt8) (acc l:List JAA) (N:Nat),spl n b acc=some l->(∀u∈acc,u.Data.length<=N)->b.length<=N->(l.length<=acc.length+b.length/\∀u∈l,u.Data.length<=N)
 | n,[],acc,l,N,h,ha,_=>by
  rw[Ut] at h
  obtain rfl:=X25 h
  exact⟨by simp,ha⟩
 | n+1,x::t,acc,l,N,h,ha,hb=>by
  simp only[spl] at h
  cases hs:stp x t with
  | none=>rw[hs] at h;cases h
  | some p=>
   obtain⟨u,r⟩:=p
   rw[hs] at h
   have h2:=UV hs
   have ih:=Vk n r (acc++[u]) l N h (fun w hw=>by
    rcases X23.1 hw with hw | hw
    ·exact ha w hw
    rw[X14] at hw
    subst hw
    omega) (by omega)
   refine⟨?_,ih.2⟩
   have:=ih.1
   simp only[X11,X22] at this
   omega
 | 0,_::_,_,_,_,h,_,_=>by cases h
theorem VO {b:List UInt8}(hb:b.length<=400000){l:List JAA}(h:P3 b []=some l):l.length<=400000/\∀u∈l,u.Data.length<=400000:=by
 have:=Vk _ _ _ _ 400000 h (by simp) hb
 simp only[X13] at this
 exact⟨by omega,this.2⟩
instance (a0:Addr):Tt (Dx a0):=by unfold Dx;exact Tt.auto
instance (a0:Addr):Tt (Dv a0):=by unfold Dv;exact Tt.auto
instance (a0:List UInt8):Tt (CP a0):=by unfold CP;exact Tt.auto
instance (a0:Int):Tt (Bc a0):=by unfold Bc;exact Tt.auto
instance (a0:Int):Tt (DT a0):=by unfold DT;exact Tt.auto
instance (a0:JAB):Tt (EP a0):=by unfold EP;exact Tt.auto
instance (a0:JAB) (a1:JAB):Tt (EV a0 a1):=by unfold EV;exact Tt.auto
instance (a0:JAF):Tt (B9 a0):=by unfold B9;exact Tt.auto
instance (a0:JAF) (a1:JAF):Tt (B6 a0 a1):=by unfold B6;exact Tt.auto
instance (a0:List JAB) (a1:JAB):Tt (Gv a0 a1):=by unfold Gv;exact Tt.auto
instance (a0:List JAF) (a1:JAF):Tt (Dh a0 a1):=by unfold Dh;exact Tt.auto
instance:Tt (ES):=by unfold ES;exact Tt.auto
instance (a0:List JAB) (a1:List JAB):Tt (EU a0 a1):=by unfold EU;exact Tt.auto
instance (a0:List JAF) (a1:List JAF):Tt (B5 a0 a1):=by unfold B5;exact Tt.auto
instance (a0:List JAA) (a1:List JAA):Tt (CL a0 a1):=by unfold CL;exact Tt.auto
instance (a0:Addr):Tt (CJ a0):=by unfold CJ;exact Tt.auto
instance (a0:Int):Tt (FN a0):=by unfold FN;exact Tt.auto
instance (a0:Addr) (a1:Int):Tt (D5 a0 a1):=by unfold D5;exact Tt.auto
theorem Xe {a k:Nat}(ha:a<2^64)(hk:k<=64):(BitVec.ofInt 64 (a:Int) &&& ~~~BitVec.ofInt 64 ((2^k-1:Nat):Int)).toNat=a/2^k*2^k:=by
 apply Nat.eq_of_testBit_eq
 intro i
 rw[BitVec.ofInt_natCast,BitVec.ofInt_natCast,BitVec.testBit_toNat]
 simp only[BitVec.getLsbD_and,BitVec.getLsbD_not,BitVec.getLsbD_ofNat,Nat.testBit_mul_two_pow,Nat.testBit_div_two_pow,Nat.testBit_two_pow_sub_one]
 by_cases hi:i<64
 ·by_cases hki:k<=i
  ·simp[hi,hki,Nat.not_lt.2 hki]
  simp[hi,hki,Nat.lt_of_not_le hki]
 have:a.testBit i=false:=Nat.testBit_lt_two_pow (Nat.lt_of_lt_of_le ha (Nat.pow_le_pow_right (by omega) (by omega)))
 by_cases hki:k<=i
 ·simp[hi,hki,this]
 omega
theorem BP (n:Nat):AT (n:Int)=UInt64.ofNat n:=by
 unfold AT
 apply UInt64.toNat_inj.1
 simp only[UInt64.toNat_ofNat']
 omega
def Addr.n (a:Addr):Nat:=a.Hi.toNat*2^64+a.Lo.toNat
def Addr.w (a:Addr):Nat:=if a.V6 then 128 else 32
def Addr.ok (a:Addr):Bool:=cond a.V6 true (cond ((a.Hi.toNat:Int)==0) (decide ((a.Lo.toNat:Int)<4294967296)) false)
def mkA (v6:Bool)(n:Nat):Addr:=⟨v6,UInt64.ofNat (n/2^64),UInt64.ofNat n⟩
def Addr.cut (a:Addr)(n:Nat):Addr:=mkA a.V6 (a.n/2^(a.w-n)*2^(a.w-n))
theorem XG (b:Bool)(m:Nat):(mkA b m).V6=b:=by unfold mkA;rfl
theorem XH (a:Addr)(n:Nat):(a.cut n).V6=a.V6:=XG _ _
theorem gI (h l k:Nat)(hl:l<2^64)(hk:k<=64):(h*2^64+l)/2^k*2^k=h*2^64+l/2^k*2^k:=by
 have:(2:Nat)^64=2^(64-k)*2^k:=by rw[<- Nat.pow_add];congr 1;omega
 rw[this,<- Nat.mul_assoc,Nat.add_comm,Nat.add_mul_div_right _ _ (Nat.two_pow_pos k),X32,Nat.add_comm]
theorem dY:AT (((0:Nat):Int)-1)=UInt64.ofNat 18446744073709551615:=by
   unfold AT
   congr 1
theorem eH {k:Nat}(hk:k<64):AT (((UInt64.ofNat (2^k)).toNat:Int)-1)=UInt64.ofNat (2^k-1):=by
  have h3:(2:Nat)^k<2^64:=Nat.pow_lt_pow_right (by omega) (by omega)
  have h4:0<(2:Nat)^k:=Nat.two_pow_pos k
  have h5:(UInt64.ofNat (2^k)).toNat=2^k:=by simp only[UInt64.toNat_ofNat'];omega
  rw[h5]
  have h6:((2^k:Nat):Int)-1=((2^k-1:Nat):Int):=by omega
  rw[h6,BP]
theorem eQ:AT (((UInt64.ofNat (2^64)).toNat:Int)-1)=UInt64.ofNat (2^64-1):=by
  have h5:(UInt64.ofNat (2^64)).toNat=0:=by simp only[UInt64.toNat_ofNat',Nat.mod_self]
  rw[h5]
  exact dY
theorem dh {k:Nat}(hk:k<=64):AT (1*(2^(min (Int.toNat ((AT (k:Int)).toNat:Int)) 64)))=UInt64.ofNat (2^k):=by
 rw[BP]
 have h1:(UInt64.ofNat k).toNat=k:=by simp;omega
 rw[h1,Int.toNat_natCast,Nat.min_eq_left hk,Int.one_mul]
 have h2:((2:Int)^k)=((2^k:Nat):Int):=by simp
 rw[h2,BP]
theorem Wc {k:Nat}(hk:k<=64):AT (((AT (1*(2^(min (Int.toNat ((AT (k:Int)).toNat:Int)) 64)))).toNat:Int)-1)=UInt64.ofNat (2^k-1):=by
 rw[dh hk]
 rcases Nat.lt_or_eq_of_le hk with h | h
 ·exact eH h
 rw[h];exact eQ
theorem Nb {x:UInt64}{k:Nat}(hk:k<=64):AT ((BitVec.ofInt 64 (x.toNat:Int) &&& ~~~BitVec.ofInt 64 ((UInt64.ofNat (2^k-1)).toNat:Int)).toNat:Int)=UInt64.ofNat (x.toNat/2^k*2^k):=by
 have h:(UInt64.ofNat (2^k-1)).toNat=2^k-1:=by
  have:(2:Nat)^k<=2^64:=Nat.pow_le_pow_right (by omega) hk
  have h4:0<(2:Nat)^k:=Nat.two_pow_pos k
  simp only[UInt64.toNat_ofNat'];omega
 rw[h,Xe x.toNat_lt hk,BP]
theorem Jt (a:Addr){n:Nat}(hn:n<=a.w):D5 a (n:Int)=some (a.cut n):=by
 have hw:CJ a=some (a.w:Int):=by unfold CJ Addr.w;split<;>rfl
 have hwn:AN ((a.w:Int)-(n:Int))=((a.w-n:Nat):Int):=by
  have:a.w<=128:=by unfold Addr.w;split<;>omega
  rw[AP (by omega)];omega
 have hlo:=a.Lo.toNat_lt
 have hhi:=a.Hi.toNat_lt
 unfold D5
 rw[hw,AC,hwn]
 have hk128:a.w-n<=128:=by unfold Addr.w;split<;>omega
 generalize hk:a.w-n=k at *
 unfold FN
 by_cases h64:k > 64
 ·rw[if_pos (by simp;omega),AC]
  have e:AN ((k:Int)-64)=((k-64:Nat):Int):=by rw[AP (by omega)];omega
  rw[e,Wc (by omega)]
  simp only[Nb (show k-64<=64 by omega)]
  have h1:(18446744073709551615:UInt64)=UInt64.ofNat (2^64-1):=rfl
  rw[h1,Nb (Nat.le_refl 64)]
  have h0:a.Lo.toNat/2^64=0:=Nat.div_eq_of_lt hlo
  unfold Addr.cut mkA Addr.n
  rw[hk]
  have hsplit:(2:Nat)^k=2^64*2^(k-64):=by rw[<- Nat.pow_add];congr 1;omega
  have hd:(a.Hi.toNat*2^64+a.Lo.toNat)/2^k=a.Hi.toNat/2^(k-64):=by
   rw[hsplit,<- Nat.div_div_eq_div_mul,Nat.add_comm,Nat.add_mul_div_right _ _ (Nat.two_pow_pos 64),h0,Nat.zero_add]
  rw[hd]
  have he:a.Hi.toNat/2^(k-64)*2^k=a.Hi.toNat/2^(k-64)*2^(k-64)*2^64:=by
   rw[hsplit,Nat.mul_comm (2^64),Nat.mul_assoc]
  rw[he,Nat.mul_div_cancel _ (Nat.two_pow_pos 64),h0]
  have e0:UInt64.ofNat (a.Hi.toNat/2^(k-64)*2^(k-64)*2^64)=UInt64.ofNat 0:=by
   apply UInt64.toNat_inj.1
   simp only[UInt64.toNat_ofNat',Nat.mul_mod_left,Nat.zero_mod]
  rw[e0,Nat.zero_mul]
 rw[if_neg (by simp;omega),AC,Wc (by omega)]
 simp only[Nb (show k<=64 by omega)]
 have h1:(0:UInt64)=UInt64.ofNat (2^0-1):=rfl
 rw[h1,Nb (Nat.zero_le 64)]
 unfold Addr.cut mkA Addr.n
 rw[hk,gI _ _ _ hlo (by omega)]
 have hlt:a.Lo.toNat/2^k*2^k<2^64:=Nat.lt_of_le_of_lt (Nat.div_mul_le_self _ _) hlo
 have e1:UInt64.ofNat (a.Hi.toNat/2^0*2^0)=UInt64.ofNat ((a.Hi.toNat*2^64+a.Lo.toNat/2^k*2^k)/2^64):=by
  congr 1
  omega
 have e2:UInt64.ofNat (a.Lo.toNat/2^k*2^k)=UInt64.ofNat (a.Hi.toNat*2^64+a.Lo.toNat/2^k*2^k):=by
  apply UInt64.toNat_inj.1
  simp only[UInt64.toNat_ofNat']
  omega
 rw[e1,e2]
theorem BU (n:Nat):Aa (n:Int)=UInt8.ofNat n:=by
 unfold Aa
 apply UInt8.toNat_inj.1
 simp only[UInt8.toNat_ofNat']
 omega
def Addr.L (a:Addr):Nat:=if a.V6 then 16 else 4
def KE (a:Addr)(k:Nat):UInt8:=UInt8.ofNat (a.n/2^(8*k))
theorem E2 (a:Addr):Dx a=some a.ok:=by
 unfold Dx Addr.ok
 rw[AH]
 generalize ((a.Hi.toNat:Int)==0)=x
 generalize decide ((a.Lo.toNat:Int)<4294967296)=y
 generalize a.V6=z
 cases z<;>cases x<;>rfl
theorem Xj {w:UInt64}{k:Nat}(hk:k<8) :
  Aa ((AT (Int.fdiv (w.toNat:Int) (2^(min (Int.toNat ((AT (8*((AT (k:Int)).toNat:Int))).toNat:Int)) 64)))).toNat:Int)=UInt8.ofNat (w.toNat/2^(8*k)):=by
 have h1:(AT (k:Int)).toNat=k:=by rw[BP];simp;omega
 have h2:(AT (8*((AT (k:Int)).toNat:Int))).toNat=8*k:=by
  rw[h1]
  have:(8*(k:Int))=((8*k:Nat):Int):=by omega
  rw[this,BP];simp;omega
 have h3:Int.fdiv (w.toNat:Int) ((2:Int)^(8*k))=((w.toNat/2^(8*k):Nat):Int):=by
  have:((2:Int)^(8*k))=((2^(8*k):Nat):Int):=by simp
  rw[this,Int.fdiv_eq_ediv_of_nonneg _ (Int.natCast_nonneg _),Int.natCast_ediv]
 rw[h2,Int.toNat_natCast,Nat.min_eq_left (by omega),h3,BP,BU]
 have:(UInt64.ofNat (w.toNat/2^(8*k))).toNat=w.toNat/2^(8*k):=by
  have hd:w.toNat/2^(8*k)<2^64:=Nat.lt_of_le_of_lt (Nat.div_le_self _ _) w.toNat_lt
  rw[UInt64.toNat_ofNat',Nat.mod_eq_of_lt hd]
 rw[this]
theorem U6 {a b:Nat}(h:a%256=b%256):UInt8.ofNat a=UInt8.ofNat b:=by
 apply UInt8.toNat_inj.1
 simp only[UInt8.toNat_ofNat']
 exact h
theorem UW {a:Addr}{k:Nat}(hk:k<16)(hv:a.ok=true)(h4:a.V6=false->k<4) :
  UInt8.ofNat ((if k ≥ 8 then a.Hi else a.Lo).toNat/2^(8*(k%8)))=KE a k:=by
 unfold KE Addr.n
 have hlo:=a.Lo.toNat_lt
 by_cases h8:k ≥ 8
 ·rw[if_pos h8]
  have e:8*k=64+8*(k%8):=by omega
  rw[e,Nat.pow_add,<- Nat.div_div_eq_div_mul,Nat.add_comm (a.Hi.toNat*2^64),Nat.add_mul_div_right _ _ (Nat.two_pow_pos 64),Nat.div_eq_of_lt hlo,Nat.zero_add]
 rw[if_neg h8]
 have e:k%8=k:=Nat.mod_eq_of_lt (by omega)
 rw[e]
 apply U6
 have e2:(2:Nat)^64=2^(8*k)*2^(64-8*k):=by rw[<- Nat.pow_add];congr 1;omega
 have e3:(2:Nat)^(64-8*k)=256*2^(56-8*k):=by
  have:(256:Nat)=2^8:=rfl
  rw[this,<- Nat.pow_add];congr 1;omega
 have e4:a.Hi.toNat*2^64=a.Hi.toNat*2^(56-8*k)*256*2^(8*k):=by
  rw[e2,e3,Nat.mul_assoc,Nat.mul_assoc]
  congr 1
  rw[Nat.mul_comm (2^(56-8*k)),Nat.mul_comm (2^(8*k))]
  rw[Nat.mul_assoc,Nat.mul_comm (2^(56-8*k)),Nat.mul_assoc]
 rw[e4,Nat.add_comm,Nat.add_mul_div_right _ _ (Nat.two_pow_pos _),Nat.add_mul_mod_self_right]
theorem H4 {a:Addr}(hv:a.ok=true):Ok (Bg a) fun l=>l.length=a.L/\∀j,j<a.L->l[j]?=some (KE a (a.L-1-j)):=by
 unfold Bg
 rw[E2,AC,hv]
 refine .ite (fun h=>by simp at h) fun _=>?_
 refine .join (fun n:Int=>n=a.L) (fun k hk=>.ite (fun h=>hk _ (by unfold Addr.L;rw[if_pos h];rfl)) fun h=>hk _ (by unfold Addr.L;rw[if_neg h];rfl)) fun n hn=>?_
 have hL:a.L=16\/a.L=4:=by unfold Addr.L;split<;>simp
 subst hn
 refine .join (fun l:List UInt8=>l.length=a.L/\∀j,j<a.L->l[j]?=some (KE a (a.L-1-j))) (fun k hk=>?_) fun l hl=>.ret hl
 refine .whileI (fun s:Int×List UInt8=>-1<=s.1/\s.1=a.L-1-s.2.length/\∀j,j<s.2.length->s.2[j]?=some (KE a (a.L-1-j))) (fun s=>(s.1+1).toNat) ?_ ?_ ?_
 ·rw[AP (by omega)];simp;omega
 ·rw[AP (by omega)];exact B2 (by omega)
 rintro next ⟨p,l⟩ ⟨h1,h2,h3⟩ hn
 simp only at h1 h2 h3
 refine .ite (fun h=>?_) fun h=>hk _ ⟨by simp at h;omega,fun j hj=>h3 j (by simp at h;omega)⟩
 simp only[decide_eq_true_eq] at h
 obtain⟨k,rfl⟩ :∃k:Nat,p=k:=⟨p.toNat,by omega⟩
 refine .join (fun w:UInt64=>w=if k ≥ 8 then a.Hi else a.Lo) (fun k' hk'=>.ite (fun h=>hk' _ (by rw[if_pos (by simp at h;omega)]) ) fun h=>hk' _ (by rw[if_neg (by simp at h;omega)])) fun w hw=>?_
 refine .bind (Ok.apnd (by decide) (by simp;omega)) fun l' hl'=>?_
 have hb:k<16:=by omega
 have ht:Int.tmod (k:Int) 8=((k%8:Nat):Int):=by rw[Int.tmod_eq_emod_of_nonneg (by omega)];omega
 rw[ht,Xj (Nat.mod_lt _ (by omega)),hw,UW hb hv (fun h4=>by unfold Addr.L at h2;simp[h4] at h2;omega)] at hl'
 subst hl'
 rw[AP (by omega)]
 refine hn _ ⟨by simp only;omega,by simp;omega,fun j hj=>?_⟩ (by simp only;omega)
 simp only[X11,X22] at hj
 by_cases hj':j<l.length
 ·simp only
  rw[List.getElem?_append_left hj'];exact h3 j hj'
 have:j=l.length:=by omega
 subst this
 simp only[List.getElem?_append_right (Nat.le_refl _),Nat.sub_self,List.getElem?_cons_zero]
 congr 2
 omega
theorem UO {u v:Nat}(hu:u<2^64)(hv:v<256):AT ((BitVec.ofInt 64 ((AT ((u:Int)*(2^(min (Int.toNat 8) 64)))).toNat:Int) ||| BitVec.ofInt 64 ((AT (v:Int)).toNat:Int)).toNat:Int)=UInt64.ofNat (u*256+v):=by
 have h1:((u:Int)*(2^(min (Int.toNat 8) 64)))=((u*256:Nat):Int):=by
  have:min (Int.toNat 8) 64=8:=rfl
  rw[this];omega
 rw[h1,BP,BP,BP]
 have h2:(UInt64.ofNat v).toNat=v:=by simp only[UInt64.toNat_ofNat'];omega
 have h3:(UInt64.ofNat (u*256)).toNat=2^8*(u%2^56):=by simp only[UInt64.toNat_ofNat'];omega
 rw[h2,h3,BitVec.ofInt_natCast,BitVec.ofInt_natCast,BitVec.toNat_or,BitVec.toNat_ofNat,BitVec.toNat_ofNat,Nat.mod_eq_of_lt (show 2^8*(u%2^56)<2^64 by omega),Nat.mod_eq_of_lt (show v<2^64 by omega),
  ← Nat.two_pow_add_eq_or_of_lt (show v<2^8 by omega)]
 apply UInt64.toNat_inj.1
 simp only[UInt64.toNat_ofNat']
 omega
theorem H8 {l:List UInt8}(hl:l.length=4\/l.length=16):Ok (CP l) fun r=>r=(mkA (l.length==16) (val l%2^128),0):=by
 unfold CP
 refine .join (fun b=>b=false) (fun k hk=>.ite (fun h=>hk _ ?_) fun _=>hk _ rfl) fun b hb=>?_
 ·rcases hl with h' | h'<;>simp[h'] at h ⊢
 subst hb
 refine .ite (fun h=>by simp at h) fun _=>?_
 refine .join (fun a=>a=mkA (l.length==16) (val l%2^128)) (fun k hk=>?_) fun a ha=>.ret (by rw[ha])
 refine .forX (fun i s=>s=mkA (l.length==16) (val (l.take i)%2^128)) ?_ (fun s hs=>hk _ (by rw[hs,List.take_length])) ?_
 ·have:((l.length:Int)==16)=(l.length==16):=by rw[X28];simp only[beq_iff_eq];omega
  rw[this,List.take_zero]
  have e0:val []%2^128=0:=by simp[val]
  rw[e0]
  unfold mkA
  rfl
 rintro next x i s hx rfl hn
 refine hn _ ?_
 have hlt:=(X16.1 hx).1
 have ht:l.take (i+1)=l.take i++[x]:=by rw[List.take_add_one,hx];rfl
 rw[ht,NQ]
 generalize val (l.take i)=m
 have hx8:=x.toNat_lt
 have hlo:(mkA (l.length==16) (m%2^128)).Lo.toNat=m%2^64:=by unfold mkA;simp only[UInt64.toNat_ofNat'];omega
 have hhi:(mkA (l.length==16) (m%2^128)).Hi.toNat=m/2^64%2^64:=by unfold mkA;simp only[UInt64.toNat_ofNat'];omega
 have h1:=UO (u:=m%2^64) (v:=x.toNat) (by omega) hx8
 have h2:=UO (u:=m/2^64%2^64) (v:=m%2^64/2^56) (by omega) (by omega)
 have h3:Int.fdiv ((m%2^64:Nat):Int) (2^(min (Int.toNat 56) 64))=((m%2^64/2^56:Nat):Int):=by
  have:min (Int.toNat 56) 64=56:=rfl
  have e5:((2:Int)^56)=((2^56:Nat):Int):=by simp
  rw[this,e5,Int.fdiv_eq_ediv_of_nonneg _ (Int.natCast_nonneg _),Int.natCast_ediv]
 rw[hlo,hhi,h3,h1,h2,XG]
 unfold mkA
 have e1:UInt64.ofNat (m/2^64%2^64*256+m%2^64/2^56)=UInt64.ofNat ((m*256+x.toNat)%2^128/2^64):=by
  apply UInt64.toNat_inj.1;simp only[UInt64.toNat_ofNat'];omega
 have e2:UInt64.ofNat (m%2^64*256+x.toNat)=UInt64.ofNat ((m*256+x.toNat)%2^128):=by
  apply UInt64.toNat_inj.1;simp only[UInt64.toNat_ofNat'];omega
 rw[e1,e2]
theorem PV :∀(l:List UInt8) (q:Nat),(val l).testBit q=if q<8*l.length then (l.getD (l.length-1-q/8) 0).toNat.testBit (q%8) else false:=by
 intro l
 induction h:l.length generalizing l with
 | zero=>intro q;have:l=[]:=List.eq_nil_of_length_eq_zero h;subst this;simp[val]
 | succ n ih=>
  intro q
  obtain⟨l',x,rfl⟩ :∃l' x,l=l'++[x]:=by
   rcases List.eq_nil_or_concat l with h' | ⟨l',x,h'⟩
   ·subst h';simp at h
   exact⟨l',x,by simpa using h'⟩
  have hl':l'.length=n:=by simpa using h
  rw[NQ,Nat.mul_comm,show (256:Nat)=2^8 from rfl,Nat.testBit_two_pow_mul_add _ (show x.toNat<2^8 from x.toNat_lt)]
  by_cases hq:q<8
  ·rw[if_pos hq,if_pos (by omega)]
   have e1:n+1-1-q/8=l'.length:=by omega
   rw[e1,Nat.mod_eq_of_lt hq]
   simp[List.getD_eq_getElem?_getD]
  rw[if_neg hq,ih l' hl']
  by_cases h2:q-8<8*n
  ·rw[if_pos h2,if_pos (by omega)]
   have e1:n-1-(q-8)/8=n+1-1-q/8:=by omega
   have e2:(q-8)%8=q%8:=by omega
   rw[e1,e2,List.getD_eq_getElem?_getD,List.getD_eq_getElem?_getD,List.getElem?_append_left (by omega)]
  rw[if_neg h2,if_neg (by omega)]
theorem ZR {x:UInt8}{r:Nat}(hr:r<8){s:Nat}(hs:s<8) :
  (Aa ((BitVec.ofInt 8 (x.toNat:Int) &&& ~~~BitVec.ofInt 8 ((Aa (Int.fdiv 128 (2^(min (Int.toNat ((AT (r:Int)).toNat:Int)) 8)))).toNat:Int)).toNat:Int)).toNat.testBit s=(x.toNat.testBit s&&!decide (7-r=s)):=by
 have h1:(AT (r:Int)).toNat=r:=by rw[BP];simp;omega
 have h2:Int.fdiv 128 ((2:Int)^r)=((2^(7-r):Nat):Int):=by
  have e1:((2:Int)^r)=((2^r:Nat):Int):=by simp
  have e2:(128:Int)=((128:Nat):Int):=rfl
  rw[e1,e2,Int.fdiv_eq_ediv_of_nonneg _ (Int.natCast_nonneg _),<- Int.natCast_ediv]
  congr 1
  have e3:(128:Nat)=2^(7-r)*2^r:=by rw[<- Nat.pow_add,show 7-r+r=7 by omega]
  rw[e3,Nat.mul_div_cancel _ (Nat.two_pow_pos r)]
 rw[h1,Int.toNat_natCast,Nat.min_eq_left (by omega),h2,BU,BU,BitVec.ofInt_natCast,BitVec.ofInt_natCast]
 have hp:2^(7-r)<256:=Nat.lt_of_le_of_lt (Nat.pow_le_pow_right (by omega) (show 7-r<=7 by omega)) (by decide)
 have h3:(UInt8.ofNat (2^(7-r))).toNat=2^(7-r):=by simp only[UInt8.toNat_ofNat'];exact Nat.mod_eq_of_lt hp
 rw[h3,UInt8.toNat_ofNat',Nat.testBit_mod_two_pow,BitVec.testBit_toNat]
 simp only[BitVec.getLsbD_and,BitVec.getLsbD_not,BitVec.getLsbD_ofNat,hs,decide_true,Bool.true_and,Nat.testBit_two_pow]
theorem Addr.cut_bit (a:Addr){n q:Nat}(hn:n<=a.w):(a.n/2^(a.w-n)*2^(a.w-n)).testBit q=(a.n.testBit q&&decide (a.w-n<=q)):=by
 rw[Nat.testBit_mul_two_pow,Nat.testBit_div_two_pow]
 by_cases h:a.w-n<=q
 ·simp[h]
 simp[h]
theorem Zw {b c:Bool}(h:cond b c false=true):b=true/\c=true:=by cases b<;>simp at h ⊢;exact h
theorem Addr.ok4 {a:Addr}(hv:a.ok=true)(h6:a.V6=false):a.Hi.toNat=0/\a.Lo.toNat<2^32:=by
 unfold Addr.ok at hv
 rw[h6] at hv
 obtain⟨h1,h2⟩:=Zw hv
 have h2:=of_decide_eq_true h2
 have h1:=eq_of_beq h1
 omega
theorem Addr.n_lt {a:Addr}(hv:a.ok=true):a.n<2^a.w:=by
 have h1:=a.Lo.toNat_lt
 have h2:=a.Hi.toNat_lt
 cases hv6:a.V6
 ·obtain⟨g1,g2⟩:=Addr.ok4 hv hv6
  have hw:a.w=32:=by unfold Addr.w;rw[hv6];rfl
  have hn:a.n=a.Lo.toNat:=by unfold Addr.n;rw[g1,Nat.zero_mul,Nat.zero_add]
  rw[hw,hn];exact g2
 have hw:a.w=128:=by unfold Addr.w;rw[hv6];rfl
 rw[hw]
 unfold Addr.n
 omega
theorem SN {a:Addr}{n:Nat}(hv:a.ok=true)(hn:n<=a.w):Ok (D8 a (n:Int)) fun r=>r=(⟨a.cut n,n⟩,0):=by
 have hw:a.w=8*a.L:=by unfold Addr.w Addr.L;split<;>rfl
 have hL:a.L=16\/a.L=4:=by unfold Addr.L;split<;>simp
 unfold D8
 rw[E2,AC,hv]
 refine .ite (fun h=>by simp at h) fun _=>?_
 have hwid:Dv a=some (a.w:Int):=by unfold Dv Addr.w;split<;>rfl
 refine .join (fun b=>b=false) (fun k hk=>.ite (fun h=>by simp at h;omega) fun _=>?_) fun b hb=>?_
 ·rw[hwid,AC]
  refine hk _ ?_
  simp only[cond_false,decide_eq_false_iff_not]
  omega
 subst hb
 refine .ite (fun h=>by simp at h) fun _=>?_
 refine .bind (H4 hv) fun l hl=>?_
 refine .join (fun l:List UInt8=>l.length=a.L/\val l=a.n/2^(a.w-n)*2^(a.w-n)) (fun k hk=>?_) fun l' hl'=>?_
 ·refine .whileI (fun s:Int×List UInt8=>∃P:Nat,s.1=P/\n<=P/\P<=8*a.L/\s.2.length=a.L/\∀q,q<8*a.L->(s.2.getD (a.L-1-q/8) 0).toNat.testBit (q%8)=(a.n.testBit q&&!decide (8*a.L-P<=q/\q<8*a.L-n)))
   (fun s=>(8*a.L-s.1).toNat) ⟨n,rfl,Nat.le_refl _,by omega,hl.1,fun q hq=>?_⟩ (B2 (by simp only;omega)) ?_
  ·have h1:a.L-1-q/8<a.L:=by omega
   have h2:=hl.2 _ h1
   have h3:a.L-1-(a.L-1-q/8)=q/8:=by omega
   have h4:¬ (8*a.L-n<=q/\q<8*a.L-n):=by omega
   rw[List.getD_eq_getElem?_getD,h2,h3]
   simp only[Option.getD_some,h4,decide_false,Bool.not_false,Bool.and_true]
   unfold KE
   rw[UInt8.toNat_ofNat',Nat.testBit_mod_two_pow,Nat.testBit_div_two_pow,Nat.mod_add_div]
   simp[Nat.mod_lt]
  rintro next ⟨p,l⟩ ⟨P,h1,h2,h3,h4,h5⟩ hnx
  simp only at h1 h4 h5
  subst h1
  have e8:AN (8*(l.length:Int))=((8*a.L:Nat):Int):=by rw[AP (by omega)];omega
  refine .ite (fun h=>?_) fun h=>hk _ ?_
  ·rw[e8] at h
   simp only[decide_eq_true_eq] at h
   have ed:AN (Int.tdiv (P:Int) 8)=((P/8:Nat):Int):=by
    rw[Int.tdiv_eq_ediv_of_nonneg (by omega),AP (by omega)];omega
   have et:Int.tmod (P:Int) 8=((P%8:Nat):Int):=by rw[Int.tmod_eq_emod_of_nonneg (by omega)];omega
   have hlt:P/8<l.length:=by omega
   rw[ed,C7 hlt,AC,AC]
   refine .bind (Ok.seti (by omega)) fun l' hl'=>?_
   rw[Int.toNat_natCast,et] at hl'
   rw[AP (by omega)]
   refine hnx _ ⟨P+1,by simp only;omega,by omega,by omega,by simp only;omega,fun q hq=>?_⟩ (by simp only;omega)
   simp only
   rw[hl'.1]
   by_cases hb:a.L-1-q/8=P/8
   ·have hx:=h5 q hq
    rw[hb,List.getD_eq_getElem?_getD,X15 hlt,Option.getD_some] at hx
    rw[hb,List.getD_eq_getElem?_getD,List.getElem?_set_self (by omega),Option.getD_some,ZR (Nat.mod_lt _ (by omega)) (Nat.mod_lt _ (by omega)),hx,Bool.and_assoc]
    congr 1
    rw[X28]
    simp only[X27,Bool.not_eq_true',decide_eq_false_iff_not]
    omega
   have hx:=h5 q hq
   rw[List.getD_eq_getElem?_getD] at hx
   rw[List.getD_eq_getElem?_getD,List.getElem?_set_ne (by omega),hx]
   congr 2
   rw[decide_eq_decide]
   omega
  rw[e8] at h
  simp only[decide_eq_true_eq] at h
  have hP:P=8*a.L:=by omega
  subst hP
  refine⟨h4,?_⟩
  apply Nat.eq_of_testBit_eq
  intro q
  rw[PV,a.cut_bit hn,h4]
  by_cases hq:q<8*a.L
  ·rw[if_pos hq,h5 q hq]
   congr 1
   rw[X28]
   simp only[Bool.not_eq_true',decide_eq_false_iff_not,decide_eq_true_eq]
   omega
  rw[if_neg hq]
  have:a.n.testBit q=false:=Nat.testBit_lt_two_pow (Nat.lt_of_lt_of_le (Addr.n_lt hv) (Nat.pow_le_pow_right (by omega) (by omega)))
  rw[this,Bool.false_and]
 refine .bind (H8 (by omega)) fun r hr=>?_
 subst hr
 refine .ret ?_
 have e1:(l'.length==16)=a.V6:=by
  rw[hl'.1]
  unfold Addr.L
  cases a.V6<;>rfl
 have e2:val l'%2^128=val l':=by
  refine Nat.mod_eq_of_lt ?_
  rw[hl'.2]
  exact Nat.lt_of_le_of_lt (Nat.div_mul_le_self _ _) (Nat.lt_of_lt_of_le (Addr.n_lt hv) (Nat.pow_le_pow_right (by omega) (by rw[hw];omega)))
 rw[e1,e2,hl'.2,Addr.cut]
theorem Qd {a:Addr}{n:Int}(hn:¬ (a.ok=true/\0<=n/\n<=a.w)):Ok (D8 a n) fun r=>r.2≠0:=by
 have hwid:Dv a=some (a.w:Int):=by unfold Dv Addr.w;split<;>rfl
 unfold D8
 rw[E2,AC]
 refine .ite (fun _=>.ret (by decide)) fun hv=>?_
 have hv:a.ok=true:=by simpa using hv
 refine .join (fun b=>b=true) (fun k hk=>.ite (fun _=>hk _ rfl) fun h=>?_) fun b hb=>?_
 ·rw[hwid,AC]
  refine hk _ ?_
  show decide (n > (a.w:Int))=true
  simp at h ⊢
  have:¬ (0<=n/\n<=a.w):=fun q=>hn ⟨hv,q⟩
  omega
 subst hb
 exact .ite (fun _=>.ret (by decide)) fun h=>absurd rfl h
theorem Ij (a:Addr)(n:Int) :∃r e,D8 a n=some (r,e)/\((a.ok=true/\0<=n/\n<=a.w)/\e=0/\r=⟨a.cut n.toNat,n⟩\/¬ (a.ok=true/\0<=n/\n<=a.w)/\e≠0):=by
 by_cases h:a.ok=true/\0<=n/\n<=a.w
 ·obtain⟨k,rfl⟩ :∃k:Nat,n=k:=⟨n.toNat,by omega⟩
  obtain⟨r,h1,h2⟩:=SN h.1 (n:=k) (by omega)
  exact⟨_,_,by rw[h1,h2],.inl ⟨h,rfl,by rw[Int.toNat_natCast]⟩⟩
 obtain⟨r,h1,h2⟩:=Qd h
 exact⟨r.1,r.2,h1,.inr ⟨h,h2⟩⟩
instance (a:Addr) (n:Int):Tt (D8 a n):=by
 obtain⟨r,e,h,_⟩:=Ij a n
 exact⟨_,h⟩
instance (p:JAE):Tt (Dz p):=by unfold Dz;exact Tt.auto
structure SmA (n:Nat)(a:JAC):Prop where
 p:a.Path.length<=n
 s :∀s∈a.Path,s.ASNs.length<=n
 c:a.Communities.length<=n
 l:a.JAF.length<=n
 o:a.Other.length<=n
 d :∀u∈a.Other,u.Data.length<=n
theorem SmA.mono {n m:Nat}{a:JAC}(h:SmA n a)(hnm:n<=m):SmA m a:=
 ⟨Nat.le_trans h.p hnm,fun s hs=>Nat.le_trans (h.s s hs) hnm,Nat.le_trans h.c hnm,Nat.le_trans h.l hnm,Nat.le_trans h.o hnm,fun u hu=>Nat.le_trans (h.d u hu) hnm⟩
theorem SmA.zero (n:Nat)(x:Addr)(a b c d:Int):SmA n ⟨a,[],x,b,c,d,[],[],[]⟩:=⟨Nat.zero_le _,fun _ h=>absurd h (by simp),Nat.zero_le _,Nat.zero_le _,Nat.zero_le _,fun _ h=>absurd h (by simp)⟩
instance (a b:List JAD):Tt (EW a b):=by
 unfold EW
 refine Ok.tt (Q:=fun _=>True) (.ite (fun _=>.ret trivial) fun hl=>.join (fun _=>True) (fun k hk=>?_) fun _ _=>.ret trivial)
 have hl:a.length=b.length:=by simp at hl;omega
 refine .for_ (fun _=>hk _ trivial) fun next x i s hi hx hnx=>.join (fun _=>True) (fun k2 hk2=>?_) fun _ _=>hnx _
 have hib:i<b.length:=by omega
 refine .join (fun c=>c=false->x.ASNs.length=b[i].ASNs.length) (fun k3 hk3=>?_) fun c hc=>.ite (fun _=>.ret trivial) fun hc'=>.join (fun _=>True) (fun k4 hk4=>?_) fun _ _=>hk2 _ trivial
 ·rw[C7 hib,AC]
  refine .ite (fun _=>hk3 _ (by simp)) fun _=>?_
  rw[AC]
  exact hk3 _ fun h=>by simp at h;omega
 have:=hc (by simpa using hc')
 refine .for_ (fun _=>hk4 _ trivial) fun next y j s hj hy hny=>?_
 rw[C7 hib,AC]
 refine .bind (.geti (by omega)) fun _ _=>.ite (fun _=>.ret trivial) fun _=>hny _
instance (a b:JAC):Tt (DJ a b):=by unfold DJ;exact Tt.auto
theorem Xn {K V:Type}[BEq K](hl :∀a b:K,(a==b)=true↔a=b){l:List (K×V)}{k k':K}{v:V}:BB (Cc l k v) k'=cond (k'==k) (some v) (BB l k'):=by
 induction l with
 | nil=>simp only[Cc,BB];cases k'==k<;>rfl
 | cons p l ih=>
  simp only[Cc]
  cases h:(k==p.1)
  ·simp only[Bool.false_eq_true,if_false,BB,ih]
   cases h2:(k'==p.1)
   ·simp
   have h3:(k'==k)=false:=by
    cases h4:(k'==k)
    ·rfl
    have e1:=(hl _ _).1 h2;have e2:=(hl _ _).1 h4
    rw[<- e2,e1,(hl _ _).2 rfl] at h
    simp at h
   rw[h3];simp
  simp only[if_true,BB]
  have e:=(hl _ _).1 h
  rw[<- e]
  cases k'==k<;>simp
theorem mget_mset {V:Type}{l:List (Int×V)}{k k':Int}{v:V}:BB (Cc l k v) k'=if k'=k then some v else BB l k':=by
 rw[Xn (fun a b=>beq_iff_eq)]
 by_cases h:k'=k
 ·rw[if_pos h,h];simp
 rw[if_neg h,show (k'==k)=false by simpa using h];rfl
def Mb (n:Nat)(ks:List Int)(m:List (Int×List UInt8)):Prop:=(∀k v,BB m k=some v->v.length<=n)/\∀k∈ks,BB m k=none
theorem Mb.set {n:Nat}{ks ks':List Int}{m:List (Int×List UInt8)}{k:Int}{v:List UInt8}(h:Mb n ks m)(hv:v.length<=n)(hk :∀q∈ks',q∈ks/\q≠k):Mb n ks' (Cc m k v):=by
 refine⟨fun q u hq=>?_,fun q hq=>?_⟩
 ·rw[mget_mset] at hq
  split at hq
  ·obtain rfl:=X25 hq;exact hv
  exact h.1 _ _ hq
 rw[mget_mset,if_neg (hk q hq).2]
 exact h.2 q (hk q hq).1
theorem Mb.sub {n:Nat}{ks ks':List Int}{m:List (Int×List UInt8)}(h:Mb n ks m)(hk :∀q∈ks',q∈ks):Mb n ks' m:=⟨h.1,fun q hq=>h.2 q (hk q hq)⟩
def DU (p:JAE):Prop:=p.Addr.ok=true/\0<=p.Len/\p.Len<=p.Addr.w/\p.Addr.cut p.Len.toNat=p.Addr
theorem Addr.eqd_iff (a b:Addr):Addr.eqd a b=true↔a=b:=by
 unfold Addr.eqd
 simp only[X27,beq_iff_eq,Bool.and_true,Int.natCast_inj,UInt64.toNat_inj]
 constructor
 ·rintro⟨h1,h2,h3⟩;cases a;cases b;simp_all
 rintro rfl;exact⟨rfl,rfl,rfl⟩
theorem JAE.eqd_iff (a b:JAE):JAE.eqd a b=true↔a=b:=by
 have h:=Addr.eqd_iff a.Addr b.Addr
 unfold Addr.eqd at h
 unfold JAE.eqd
 rw[X27,h]
 simp only[Bool.and_true,beq_iff_eq]
 constructor
 ·rintro⟨h1,h2⟩;cases a;cases b;simp_all
 rintro rfl;exact⟨rfl,rfl⟩
theorem QJ (p:JAE):Ok (Dz p) fun b=>b=true↔DU p:=by
 obtain⟨r,e,h1,h2⟩:=Ij p.Addr p.Len
 unfold Dz
 rw[h1,AC]
 dsimp only
 unfold DU
 rcases h2 with ⟨h3,rfl,rfl⟩|⟨h3,h4⟩
 ·refine .join (fun b=>b=true↔p.Addr.cut p.Len.toNat=p.Addr) (fun k hk=>.ite (fun _=>hk _ ?_) fun h=>absurd rfl h) fun b hb=>.ret (by rw[hb];exact⟨fun h=>⟨h3.1,h3.2.1,h3.2.2,h⟩,fun h=>h.2.2.2⟩)
  show JAE.eqd p _=true↔_
  rw[JAE.eqd_iff]
  exact⟨fun h=>(congrArg JAE.Addr h).symm,fun h=>by rw[h]⟩
 refine .join (fun b=>b=false) (fun k hk=>.ite (fun h=>absurd (by simpa using h) h4) fun _=>hk _ rfl) fun b hb=>.ret ⟨fun h=>by rw[hb] at h;simp at h,fun h=>absurd ⟨h.1,h.2.1,h.2.2.1⟩ h3⟩
def Dk (d:JAI):Prop:=0<=d.At/\d.L.length<=9223372036854775807
def Sh (p:List JAD)(o:List JAA):Prop:=(p.length<=4/\∀s∈p,s.ASNs.length<=20)/\o.length<=4/\∀u∈o,u.Data.length<=4
theorem Sh.a {p:List JAD}{o:List JAA}(h:Sh p o){a b c d:Int}{x:Addr}{e:List JAB}{f:List JAF}(he:e.length<=8)(hf:f.length<=8):SmA 1000 ⟨a,p,x,b,c,d,e,f,o⟩:=
 ⟨by have:=h.1.1;simp only;omega,fun s hs=>by have:=h.1.2 s hs;omega,by simp only;omega,by simp only;omega,by have:=h.2.1;simp only;omega,fun u hu=>by have:=h.2.2 u hu;omega⟩
def pw (six:Bool):Nat:=if six=true then 16 else 4
def pk (n:UInt8):Nat:=(n.toNat+7)/8
def TS (six:Bool)(n:UInt8)(t:List UInt8):List UInt8:=t.take (pk n)++List.replicate (pw six-pk n) 0
def dI (six:Bool)(n:UInt8)(t:List UInt8):JAE:=⟨(addrOf (TS six n t)).cut n.toNat,n.toNat⟩
def Ll (six:Bool)(n:UInt8)(t:List UInt8):Option (JAE×List UInt8):=if 8*pw six<n.toNat\/t.length<pk n then none else some (dI six n t,t.drop (pk n))
def pfx (six:Bool):Nat->List UInt8->List JAE->Option (List JAE)
 | _,[],acc=>some acc
 | f+1,n::t,acc=>match Ll six n t with
  | none=>none
  | some (p,r)=>pfx six f r (acc++[p])
 | 0,_::_,_=>none
theorem O4 {six:Bool}{n:UInt8}{t:List UInt8}{p:JAE}{r:List UInt8}(h:Ll six n t=some (p,r)):r.length<=t.length:=by
 unfold Ll at h
 split at h
 ·cases h
 simp only[X24,X26] at h
 obtain⟨_,rfl⟩:=h
 simp
theorem Up (six:Bool)(n:Nat)(acc:List JAE):pfx six n [] acc=some acc:=by cases n<;>rfl
theorem VI (six:Bool) :∀(n m:Nat) (b:List UInt8) (acc:List JAE),b.length<=n->b.length<=m->pfx six n b acc=pfx six m b acc
 | n,m,[],acc,_,_=>by rw[Up,Up]
 | n+1,m+1,x::t,acc,h1,h2=>by
  simp only[pfx]
  cases h:Ll six x t with
  | none=>rfl
  | some p=>
   obtain⟨u,r⟩:=p
   have:=O4 h
   simp only[X12] at h1 h2
   exact VI six n m r _ (by omega) (by omega)
 | 0,_,_::_,_,h,_=>by simp at h
 | _,0,_::_,_,_,h=>by simp at h
def IL (six:Bool)(b:List UInt8)(acc:List JAE):Option (List JAE):=pfx six b.length b acc
theorem Tu (six:Bool)(x:UInt8)(t:List UInt8)(acc:List JAE):IL six (x::t) acc=match Ll six x t with | none=>none | some (u,r)=>IL six r (acc++[u]):=by
 unfold IL
 rw[X12]
 simp only[pfx]
 cases h:Ll six x t with
 | none=>rfl
 | some p=>
  obtain⟨u,r⟩:=p
  have:=O4 h
  exact VI six _ _ r _ (by omega) (by omega)
def aP (six:Bool)(b:List UInt8):List JAE×Bool:=match IL six b [] with
 | none=>([],false)
 | some l=>(l,true)
theorem YC (six:Bool) :∀(f:Nat) (b:List UInt8) (acc l:List JAE),pfx six f b acc=some l->l.length<=acc.length+b.length
 | f,[],acc,l,h=>by
  rw[Up] at h
  obtain rfl:=X25 h
  simp
 | f+1,x::t,acc,l,h=>by
  simp only[pfx] at h
  cases hs:Ll six x t with
  | none=>rw[hs] at h;cases h
  | some p=>
   obtain⟨u,r⟩:=p
   rw[hs] at h
   have h1:=O4 hs
   have ih:=YC six f r _ l h
   simp only[X11,X12,X13] at ih ⊢
   omega
 | 0,_::_,_,_,h=>by cases h
theorem dD {six:Bool}{n:UInt8}(h:¬ 8*pw six<n.toNat):pk n<=pw six:=by
 unfold pk
 omega
theorem ZH {six:Bool}{n:UInt8}{t:List UInt8}(h1:¬ 8*pw six<n.toNat)(h2:¬ t.length<pk n):(TS six n t).length=pw six:=by
 have:=dD h1
 unfold TS
 simp only[X11,X18,X20]
 omega
theorem TO {l:List UInt8}(h:l.length=4\/l.length=16):A5 l=some (addrOf l,0)/\addrOf l=mkA (l.length==16) (val l%2^128):=by
 obtain⟨r,h1,h2⟩:=H8 h
 rw[UN] at h1
 have e:addrOf l=mkA (l.length==16) (val l%2^128):=by
  unfold addrOf
  rw[h1,h2];rfl
 refine⟨?_,e⟩
 rw[h1,h2,e]
theorem PH {six:Bool}{l:List UInt8}(h:l.length=pw six):A5 l=some (addrOf l,0)/\(addrOf l).V6=six/\(addrOf l).ok=true/\(addrOf l).w=8*pw six:=by
 have h4:l.length=4\/l.length=16:=by
  rw[h];unfold pw;cases six<;>simp
 obtain⟨g1,g2⟩:=TO h4
 have hv:(addrOf l).V6=six:=by
  rw[g2,XG,h]
  unfold pw;cases six<;>rfl
 refine⟨g1,hv,?_,?_⟩
 ·unfold Addr.ok
  rw[hv]
  cases six with
  | true=>rfl
  | false=>
   have hl:l.length=4:=h
   have hval:=MO l
   rw[hl] at hval
   have hval:val l<4294967296:=hval
   have e1:(addrOf l).Hi.toNat=0:=by
    rw[g2];unfold mkA
    simp only[UInt64.toNat_ofNat']
    omega
   have e2:(addrOf l).Lo.toNat<4294967296:=by
    rw[g2];unfold mkA
    simp only[UInt64.toNat_ofNat']
    omega
   have e3:((((addrOf l).Hi.toNat:Nat):Int)==0)=true:=by rw[e1];rfl
   rw[e3,cond_false,cond_true]
   exact decide_eq_true (by omega)
 unfold Addr.w pw
 rw[hv]
 cases six<;>rfl
def IX (b:List UInt8):Option (List UInt8×List UInt8):=match b with
 | x::y::t=>if t.length<x.toNat*256+y.toNat then none else some (t.take (x.toNat*256+y.toNat),t.drop (x.toNat*256+y.toNat))
 | _=>none
theorem LU {b p r:List UInt8}(h:IX b=some (p,r)):p.length+r.length+2=b.length:=by
 unfold IX at h
 split at h
 ·split at h
  ·cases h
  simp only[X24,X26] at h
  obtain⟨rfl,rfl⟩:=h
  simp only[X18,X17,X12]
  omega
 cases h
def C6 (l:List JAA)(k:Int):List JAA:=l.filter fun x=>x.Type_==k
def isP (d:List UInt8):Bool:=d.take 3==[0,2,1]
def FY (d:List UInt8):Option (Addr×List JAE):=
 if isP d=true/\21<=d.length/\d.getD 3 0=16/\d.getD 20 0=0 then (IL true (d.drop 21) []).map fun l=>(addrOf ((d.drop 4).take 16),l) else none
def E0 (d:List UInt8):Option (List JAE):=if isP d=true then IL true (d.drop 3) [] else none
def zAd:Addr:=⟨false,(0:UInt64),(0:UInt64)⟩
def F6 (l:List JAA):Option (Addr×List JAE):=match C6 l 14 with
 | []=>some (zAd,[])
 | [x]=>FY x.Data
 | _=>none
def Dl (l:List JAA):Option (List JAE):=match C6 l 15 with
 | []=>some []
 | [x]=>E0 x.Data
 | _=>none
structure Pt where
 l:List JAA
 next:Addr
 old:List JAE
 gone:List JAE
 four:List JAE
 six:List JAE
def okN (old gone four six:List JAE):Bool:=!(decide (0<four.length)&&decide (0<six.length))&&(decide (old.length+gone.length<=256)&&decide (four.length+six.length<=256))
def X4 (l:List JAA):Option (Addr×List JAE)->Option (List JAE)->Option (List JAE)->Option (List JAE)->Option Pt
 | some (n,six),some gone,some old,some four=>if okN old gone four six=true/\(rdS l).2≠12 then some ⟨l,n,old,gone,four,six⟩ else none
 | _,_,_,_=>none
def dG (w rest:List UInt8):Option (List JAA)->Option Pt
 | none=>none
 | some l=>X4 l (F6 l) (Dl l) (IL false w []) (IL false rest [])
theorem MF {w rest:List UInt8}{l:List JAA}:dG w rest (some l)=X4 l (F6 l) (Dl l) (IL false w []) (IL false rest []):=rfl
def K9 (b:List UInt8):Option Pt:=match IX b with
 | none=>none
 | some (w,b1)=>match IX b1 with
  | none=>none
  | some (a,rest)=>dG w rest (P3 a [])
theorem MA {l:List JAA}{n:Addr}{six gone old four:List JAE}:X4 l (some (n,six)) (some gone) (some old) (some four)=if okN old gone four six=true/\(rdS l).2≠12 then some ⟨l,n,old,gone,four,six⟩ else none:=rfl
theorem Ew {l:List JAA}{R:Option (Addr×List JAE)}{U O F:Option (List JAE)}(h:R=none\/U=none\/O=none\/F=none):X4 l R U O F=none:=by
 rcases h with rfl | rfl | rfl | rfl
 ·rfl
 ·cases R<;>rfl
 ·cases R<;>cases U<;>rfl
 cases R<;>cases U<;>cases O<;>rfl
def flg (x:JAA):Bool:=(x.Type_==14 || x.Type_==15)&&(bt x.Flags 192 != 128)
def Yp (P:Pt):Bool:=decide ((rdS P.l).2≠0) || (P.l.any flg || (!(Da P.l 1) || (!(Da P.l 2) || (decide (0<P.four.length)&&Addr.eqd (rdS P.l).1.Next zAd))))
def iE:JAG:=⟨[],zA,[]⟩
def cG (b:List UInt8):JAG×Int:=match K9 b with
 | none=>(iE,12)
 | some P=>if P.four++P.six=[] then (⟨P.old++P.gone,eA,[]⟩,0) else
  if Yp P=true then (⟨P.old++P.gone++(P.four++P.six),eA,[]⟩,13) else
   (⟨P.old++P.gone,if 0<P.six.length then { (rdS P.l).1 with Next:=P.next } else (rdS P.l).1,P.four++P.six⟩,0)
def Lj (b:List UInt8):List UInt8×List UInt8×Bool:=match IX b with
 | none=>([],[],false)
 | some (p,r)=>(p,r,true)
theorem cF (x y:UInt8)(t:List UInt8):Gs (x::y::t)=some ((x.toNat*256+y.toNat:Nat):Int):=by
 unfold Gs
 have hx:=x.toNat_lt
 rw[Q7,AC,Ud,AC,bA (by omega) y.toNat_lt]
theorem WE {b:List UInt8}(hb:b.length<=1000000):Gx b=some (Lj b):=by
 match b,hb with
 | [],_=>rfl
 | [x],_=>rfl
 | x::y::t,hb=>
  have hx:=x.toNat_lt
  have hy:=y.toNat_lt
  simp only[X12] at hb
  unfold Gx Lj IX
  rw[AH,if_neg (by simp only[X12,decide_eq_true_eq];omega),cF,AC,AP (x:=((x::y::t).length:Int)-2) (by simp only[X12];omega)]
  dsimp only
  by_cases c:t.length<x.toNat*256+y.toNat
  ·rw[if_pos c,if_pos (by simp only[cond_false,decide_eq_true_eq,X12];omega)]
  have e:AN (2+((x.toNat*256+y.toNat:Nat):Int))=((2+(x.toNat*256+y.toNat):Nat):Int):=by rw[AP (by omega)];omega
  rw[if_neg c,if_neg (by simp only[cond_false,decide_eq_true_eq,X12];omega),AC,e,show (2:Int)=((2:Nat):Int) by rfl,Ed (by omega) (by simp only[X12];omega),AC,IK (by simp only[X12];omega),AC]
  have e1:2+(x.toNat*256+y.toNat)-2=x.toNat*256+y.toNat:=by omega
  have e2:2+(x.toNat*256+y.toNat)=(x.toNat*256+y.toNat)+2:=by omega
  rw[e1,e2]
  rfl
theorem Eh (a:Addr):FI a=some a.ok:=by
 unfold FI Addr.ok
 rw[AH]
 generalize ((a.Hi.toNat:Int)==0)=x
 generalize decide ((a.Lo.toNat:Int)<4294967296)=y
 generalize a.V6=z
 cases z<;>cases x<;>rfl
theorem Jz (a:Addr):CJ a=some (a.w:Int):=by unfold CJ Addr.w;split<;>rfl
theorem ZO {a:Addr}{n:Nat}(hv:a.ok=true)(hn:n<=a.w):HD a (n:Int)=some (⟨a.cut n,n⟩,0):=by
 unfold HD
 rw[Eh,AC,hv,if_neg (by decide),AH,if_neg (by simp only[decide_eq_true_eq];omega),Jz,AC]
 dsimp only
 rw[if_neg (by simp only[cond_false,decide_eq_true_eq];omega),Jt a hn,AC]
theorem eG (x:UInt8):AN (1+AN (Int.tdiv (AN ((x.toNat:Int)+7)) 8))=((1+pk x:Nat):Int)/\AN (Int.tdiv (AN ((x.toNat:Int)+7)) 8)=(pk x:Int):=by
 have hx:=x.toNat_lt
 have e:AN (Int.tdiv (AN ((x.toNat:Int)+7)) 8)=(pk x:Int):=by
  unfold pk
  rw[AP (x:=(x.toNat:Int)+7) (by omega),Int.tdiv_eq_ediv_of_nonneg (by omega),AP (by omega)]
  omega
 refine⟨?_,e⟩
 rw[e]
 have:pk x<=40:=by unfold pk;omega
 rw[AP (by omega)]
 omega
theorem aN {w:Nat}{ys:List UInt8}(h:ys.length<=w):cpy (List.replicate w (0:UInt8)) 0 (List.replicate w (0:UInt8)).length ys=ys++List.replicate (w-ys.length) 0:=by
 unfold cpy
 rw[List.take_zero,List.nil_append,X20,List.take_of_length_le h,List.drop_replicate]
 congr 2
 omega
theorem G4 {b:List UInt8}(hb:b.length<=1000000)(six:Bool):B1 b six=some (aP six b):=by
 unfold B1
 have hw:pw six=4\/pw six=16:=by unfold pw;cases six<;>simp
 have hW :∀(K:Int->Option (List JAE×Bool)),AI (τ:=Int) (fun k1=>if six then k1 128 else k1 32) K=K ((8*pw six:Nat):Int):=by
  intro K
  rw[AH]
  cases six<;>rfl
 rw[hW,AH]
 have e8:AN (Int.tdiv ((8*pw six:Nat):Int) 8)=(pw six:Int):=by rw[Int.tdiv_eq_ediv_of_nonneg (by omega),AP (by omega)];omega
 rw[e8]
 refine (DW (fun s:List UInt8×List JAE=>s.1.length+s.2.length<=1000000) (fun s=>s.1.length) (fun s=>match IL six s.1 s.2 with | none=>some ([],false)|some l=>some (l,true)) ?_ fuel (b,[]) (by simpa using hb) (B2 (by simp only;omega))).trans ?_
 ·rintro next ⟨v,acc⟩ hl hn
  dsimp only at hl ⊢
  match v,hl,hn with
  | [],_,_=>rfl
  | x::t,hl,hn=>
   have hx:=x.toNat_lt
   obtain⟨p1,p2⟩:=eG x
   simp only[X12] at hl
   rw[if_pos (by simp),Q7,AC,Tu,AH,p1]
   unfold Ll
   by_cases c1:8*pw six<x.toNat
   ·rw[if_pos (by simp only[decide_eq_true_eq];omega),if_pos (.inl c1)]
    rfl
   rw[if_neg (by simp only[decide_eq_true_eq];omega)]
   dsimp only
   by_cases c2:t.length<pk x
   ·rw[if_pos (by simp only[cond_false,decide_eq_true_eq,X12];omega),if_pos (.inr c2)]
   have hk:=dD c1
   rw[if_neg (by simp only[cond_false,decide_eq_true_eq,X12];omega),if_neg (fun q=>q.elim c1 c2),show (1:Int)=((1:Nat):Int) by rfl,Ed (l:=x::t) (a:=1) (b:=1+pk x) (by omega) (by simp only[X12];omega)]
   have e4:((x::t).drop 1).take (1+pk x-1)=t.take (pk x):=by
    have:1+pk x-1=pk x:=by omega
    rw[this];rfl
   have hfl:=ZH (six:=six) (n:=x) (t:=t) c1 c2
   obtain⟨a1,a2,a3,a4⟩:=PH hfl
   have e5:cpy (List.replicate (Int.toNat (pw six:Int)) (0:UInt8)) 0 (List.replicate (Int.toNat (pw six:Int)) (0:UInt8)).length (t.take (pk x))=TS six x t:=by
    have hlen:(t.take (pk x)).length=pk x:=by simp only[X18];omega
    rw[Int.toNat_natCast,aN (by omega),hlen]
    rfl
   have e6:(x::t).drop (1+pk x)=t.drop (pk x):=by rw[Nat.add_comm];rfl
   have e7:chk (0<=(pw six:Int)/\(pw six:Int)<=(pw six:Int)/\(pw six:Int)<=1048576)=some ():=if_pos (by omega)
   rw[e7,AC,AC,e4,e5,a1,AC]
   dsimp only
   rw[ZO a3 (by omega),AC]
   dsimp only
   rw[AO (by decide) (by simp only[X22];omega),AC,IK (by simp only[X12];omega),AC,e6]
   exact hn _ (by simp only[X11,X17,X12,X13];omega) (by simp only[X17,X12];omega)
 unfold aP
 cases IL six b []<;>rfl
theorem TW (x:JAA)(t:List JAA)(k:Int):C6 (x::t) k=if (x.Type_==k)=true then x::C6 t k else C6 t k:=by
 unfold C6
 rw[List.filter_cons]
theorem cz (x:UInt8)(n:Nat)(h:n<256):((x.toNat:Int) != (n:Int))=!decide (x=UInt8.ofNat n):=by
 have:(x=UInt8.ofNat n)↔x.toNat=n:=by
  rw[<- UInt8.toNat_inj,UInt8.toNat_ofNat',Nat.mod_eq_of_lt h]
 rw[X28]
 simp only[bne_iff_ne,ne_eq,Int.natCast_inj,Bool.not_eq_true',decide_eq_false_iff_not,this]
theorem WB {l:List UInt8}{i:Nat}(h:i<l.length):geti l (i:Int)=some l[i]:=C7 h
theorem aU (a b:List UInt8):bytes_Equal a b=some (a==b):=by
 unfold bytes_Equal
 rw[S3,S3]
theorem Um (d:List UInt8):bytes_CutPrefix d [0,2,1]=some (if isP d=true then (d.drop 3,true) else (d,false)):=by
 have hp:bytes_HasPrefix d [0,2,1]=some (isP d):=by
  unfold bytes_HasPrefix
  rw[AH]
  by_cases h3:d.length<3
  ·have:isP d=false:=by
    unfold isP
    match d,h3 with
    | [],_=>rfl
    | [_],_=>simp
    | [_,_],_=>simp
   rw[this,if_neg (by simp only[X12,X13,decide_eq_true_eq];omega)]
  rw[if_pos (by simp only[X12,X13,decide_eq_true_eq];omega)]
  have p:part d 0 (([0,2,1]:List UInt8).length:Int)=some (d.take 3):=Q9 (n:=3) (by omega)
  rw[p,AC,aU,AC]
  rfl
 unfold bytes_CutPrefix
 rw[hp,AC]
 by_cases h:isP d=true
 ·have h3:3<=d.length:=by
   unfold isP at h
   rcases Nat.lt_or_ge d.length 3 with q | q
   ·match d,q with
    | [],_=>simp at h
    | [_],_=>simp at h
    | [_,_],_=>simp at h
   exact q
  have p:part d (([0,2,1]:List UInt8).length:Int) (d.length:Int)=some (d.drop 3):=IK (n:=3) h3
  rw[if_pos h,if_neg (by rw[h];decide),p,AC]
 rw[if_neg h,if_pos (by simpa using h)]
def spF:List JAA->JAH×Nat×Nat->Option (JAH×Nat×Nat)
 | [],s=>some s
 | x::t,(p,c,e)=>if x.Type_=14 then (match FY x.Data with
   | none=>none
   | some (a,l)=>spF t ({ p with next:=a,new6:=l },c+1,e)) else
  if x.Type_=15 then (match E0 x.Data with
   | none=>none
   | some l=>spF t ({ p with gone6:=l },c,e+1)) else spF t (p,c,e)
theorem C9 {x:JAA}{t:List JAA}{k:Int}(h:x.Type_≠k):C6 (x::t) k=C6 t k:=by rw[TW,if_neg (by simpa using h)]
theorem G7 {x:JAA}{t:List JAA}{k:Int}(h:x.Type_=k):C6 (x::t) k=x::C6 t k:=by rw[TW,if_pos (by simpa using h)]
theorem M6 :∀{l:List JAA} {s:JAH×Nat×Nat},spF l s=none->(∃x∈C6 l 14,FY x.Data=none)\/(∃x∈C6 l 15,E0 x.Data=none)
 | [],s,h=>by cases h
 | x::t,(p,c,e),h=>by
  unfold spF at h
  split at h
  ·rename_i h14
   have h15:x.Type_≠15:=by omega
   rw[G7 h14,C9 h15]
   split at h
   ·rename_i hr
    exact .inl ⟨x,by simp,hr⟩
   rcases M6 h with ⟨y,hy,q⟩|q
   ·exact .inl ⟨y,X19 _ hy,q⟩
   exact .inr q
  rename_i h14
  split at h
  ·rename_i h15
   rw[C9 h14,G7 h15]
   split at h
   ·rename_i hr
    exact .inr ⟨x,by simp,hr⟩
   rcases M6 h with q | ⟨y,hy,q⟩
   ·exact .inl q
   exact .inr ⟨y,X19 _ hy,q⟩
  rename_i h15
  rw[C9 h14,C9 h15]
  exact M6 h
structure SpR (l:List JAA)(p q:JAH)(c c' e e':Nat):Prop where
 c:c'=c+(C6 l 14).length
 e:e'=e+(C6 l 15).length
 a0:C6 l 14=[]->q.next=p.next/\q.new6=p.new6
 a1 :∀x,C6 l 14=[x]->FY x.Data=some (q.next,q.new6)
 b0:C6 l 15=[]->q.gone6=p.gone6
 b1 :∀x,C6 l 15=[x]->E0 x.Data=some q.gone6
 k:q.attrs=p.attrs/\q.gone4=p.gone4/\q.new4=p.new4
theorem Nx :∀{l:List JAA} {p q:JAH} {c c' e e':Nat},spF l (p,c,e)=some (q,c',e')->SpR l p q c c' e e'
 | [],p,q,c,c',e,e',h=>by
  simp only[spF,X24,X26] at h
  obtain⟨rfl,rfl,rfl⟩:=h
  exact⟨rfl,rfl,fun _=>⟨rfl,rfl⟩,fun x hx=>(by cases hx),fun _=>rfl,fun x hx=>(by cases hx),rfl,rfl,rfl⟩
 | x::t,p,q,c,c',e,e',h=>by
  unfold spF at h
  split at h
  ·rename_i h14
   have h15:x.Type_≠15:=by omega
   split at h
   ·cases h
   rename_i a l hr
   have ih:=Nx h
   refine⟨?_,?_,fun z=>?_,fun y z=>?_,fun z=>?_,fun y z=>?_,ih.k⟩
   ·rw[G7 h14,X12];have:=ih.c;omega
   ·rw[C9 h15];exact ih.e
   ·rw[G7 h14] at z;cases z
   ·rw[G7 h14] at z
    obtain⟨rfl,z2⟩:=List.cons.inj z
    obtain⟨i1,i2⟩:=ih.a0 z2
    rw[hr,i1,i2]
   ·rw[C9 h15] at z;exact ih.b0 z
   rw[C9 h15] at z;exact ih.b1 y z
  rename_i h14
  split at h
  ·rename_i h15
   split at h
   ·cases h
   rename_i l hr
   have ih:=Nx h
   refine⟨?_,?_,fun z=>?_,fun y z=>?_,fun z=>?_,fun y z=>?_,ih.k⟩
   ·rw[C9 h14];exact ih.c
   ·rw[G7 h15,X12];have:=ih.e;omega
   ·rw[C9 h14] at z;exact ih.a0 z
   ·rw[C9 h14] at z;exact ih.a1 y z
   ·rw[G7 h15] at z;cases z
   rw[G7 h15] at z
   obtain⟨rfl,z2⟩:=List.cons.inj z
   have i1:=ih.b0 z2
   rw[hr,i1]
  rename_i h15
  have ih:=Nx h
  refine⟨?_,?_,fun z=>?_,fun y z=>?_,fun z=>?_,fun y z=>?_,ih.k⟩
  ·rw[C9 h14];exact ih.c
  ·rw[C9 h15];exact ih.e
  ·rw[C9 h14] at z;exact ih.a0 z
  ·rw[C9 h14] at z;exact ih.a1 y z
  ·rw[C9 h15] at z;exact ih.b0 z
  rw[C9 h15] at z;exact ih.b1 y z
theorem XA {d:List UInt8}(hd:d.length<=1000000){v8:List UInt8}{v9:Bool}(hv:(if isP d=true then (d.drop 3,true) else (d,false))=(v8,v9)){ρ:Type}{B:Option ρ}{G:Addr->List JAE×Bool->Option ρ}{L:Option ρ}
  (hL:L=(AI (τ:=Bool) (fun k11=>
      if (!v9) then
       k11 true
      else
       if (cond false true (decide ((v8.length:Int)<18))) then
        k11 true
       else
        Option.bind (geti v8 0) fun v12=>
        if (cond false true ((v12.toNat:Int) != 16)) then
         k11 true
        else
         Option.bind (geti v8 17) fun v13=>
         k11 (cond false true ((v13.toNat:Int) != 0))
     ) fun v14=>
     if v14 then
      B
     else
      Option.bind (part v8 1 17) fun v15=>
      Option.bind (A5 v15) fun (v16,v17)=>
      Option.bind (part v8 18 (v8.length:Int)) fun v18=>
      Option.bind (B1 v18 true) fun v=>G v16 v)):match FY d with
   | none=>L=B \/∃a l,L=G a (l,false)
   | some (a,l)=>L=G a (l,true):=by
 rw[AH] at hL
 by_cases hp:isP d=true
 case neg=>
  rw[if_neg hp] at hv
  obtain⟨rfl,rfl⟩:=Prod.mk.inj hv
  rw[show FY d=none from if_neg (fun q=>hp q.1)]
  exact .inl hL
 rw[if_pos hp] at hv
 obtain⟨rfl,rfl⟩:=Prod.mk.inj hv
 rw[if_neg (by decide)] at hL
 by_cases hl:d.length<21
 ·rw[if_pos (by simp only[cond_false,decide_eq_true_eq,X17];omega)] at hL
  rw[show FY d=none from if_neg (fun q=>by omega)]
  exact .inl hL
 rw[if_neg (by simp only[cond_false,decide_eq_true_eq,X17];omega)] at hL
 have g0:geti (d.drop 3) 0=some (d.getD 3 0):=by
  have:=WB (l:=d.drop 3) (i:=0) (by simp only[X17];omega)
  have e:(d.drop 3)[0]'(by simp only[X17];omega)=d.getD 3 0:=by
   rw[List.getElem_drop,List.getD_eq_getElem?_getD,X15 (by omega),Option.getD_some]
  rw[<- e];exact this
 have g17:geti (d.drop 3) 17=some (d.getD 20 0):=by
  have:=WB (l:=d.drop 3) (i:=17) (by simp only[X17];omega)
  have e:(d.drop 3)[17]'(by simp only[X17];omega)=d.getD 20 0:=by
   rw[List.getElem_drop,List.getD_eq_getElem?_getD,X15 (by omega),Option.getD_some]
  rw[<- e];exact this
 have c3:(((d.getD 3 0).toNat:Int) != 16)=!decide (d.getD 3 0=16):=cz _ 16 (by omega)
 have c20:(((d.getD 20 0).toNat:Int) != 0)=!decide (d.getD 20 0=0):=cz _ 0 (by omega)
 rw[g0,AC,g17,AC,c3,c20] at hL
 by_cases k3:d.getD 3 0=16
 case neg=>
  rw[if_pos (by simp only[k3,decide_false,Bool.not_false,cond_false])] at hL
  rw[show FY d=none from if_neg (fun q=>k3 q.2.2.1)]
  exact .inl hL
 rw[if_neg (by simp only[k3,decide_true,Bool.not_true,cond_false];decide)] at hL
 by_cases k20:d.getD 20 0=0
 case neg=>
  rw[decide_eq_false k20] at hL
  rw[show FY d=none from if_neg (fun q=>k20 q.2.2.2)]
  exact .inl hL
 have p1:part (d.drop 3) 1 17=some ((d.drop 4).take 16):=by
  have:=Ed (l:=d.drop 3) (a:=1) (b:=17) (by omega) (by simp only[X17];omega)
  rw[List.drop_drop] at this
  exact this
 have p2:part (d.drop 3) 18 ((d.drop 3).length:Int)=some (d.drop 21):=by
  have:=IK (l:=d.drop 3) (n:=18) (by simp only[X17];omega)
  rw[List.drop_drop] at this
  exact this
 have hl16:((d.drop 4).take 16).length=pw true:=by
  show _=16
  simp only[X18,X17]
  omega
 rw[decide_eq_true k20] at hL
 dsimp only at hL
 rw[if_neg (by decide),p1,AC,(PH hl16).1,AC] at hL
 dsimp only at hL
 rw[p2,AC,G4 (by simp only[X17];omega),AC] at hL
 unfold aP at hL
 rw[show FY d=_ from if_pos ⟨hp,by omega,k3,k20⟩]
 cases hx:IL true (d.drop 21) [] with
 | none=>rw[hx] at hL;exact .inr ⟨_,_,hL⟩
 | some l=>rw[hx] at hL;exact hL
theorem Ue {p:JAH}(hl:p.attrs.length<=1000000)(hd :∀x∈p.attrs,x.Data.length<=1000000) :∃r,C4 p=some r/\(match spF p.attrs (p,0,0) with
  | none=>r.1=false
  | some (q,c,e)=>r=(decide (c<2)&&decide (e<2),q)):=by
 unfold C4
 rw[AH]
 generalize hR:spF p.attrs (p,0,0)=R
 refine Xt (fun (t:List JAA) _ (s:JAH×List (Int×Int))=>(∃c e:Nat,(BB s.2 14).getD 0=(c:Int)/\(BB s.2 15).getD 0=(e:Int)/\c+e+t.length<=1000000/\spF t (s.1,c,e)=R)/\∀x∈t,x.Data.length<=1000000) _ ?_ ?_ p.attrs 0 (p,[]) ⟨⟨0,0,rfl,rfl,by omega,hR⟩,hd⟩
 ·rintro i ⟨v2,v3⟩ ⟨⟨c,e,h1,h2,h3,h4⟩,_⟩
  have h4:some (v2,c,e)=R:=h4
  subst h4
  refine⟨(decide (c<2)&&decide (e<2),v2),?_,rfl⟩
  dsimp only at h1 h2 ⊢
  rw[AH,AC,h1,AC,h2]
  by_cases hc:c<2
  ·rw[if_pos (by simp only[decide_eq_true_eq];omega),decide_eq_true hc]
   have:decide ((e:Int)<2)=decide (e<2):=by rw[decide_eq_decide];omega
   rw[this]
   rfl
  rw[if_neg (by simp only[decide_eq_true_eq];omega),decide_eq_false hc]
  rfl
 rintro next x t i ⟨v2,v3⟩ ⟨⟨c,e,h1,h2,h3,h4⟩,hdx⟩ hn
 have hdd:=hdx x (by simp)
 have hdt :∀y∈t,y.Data.length<=1000000:=fun y hy=>hdx y (X19 _ hy)
 simp only[X12] at h1 h2 h3 h4
 dsimp only
 obtain⟨v8,v9,hv⟩ :∃v8 v9,(if isP x.Data=true then (x.Data.drop 3,true) else (x.Data,false))=(v8,v9):=⟨_,_,rfl⟩
 rw[AC,Um,hv,AC]
 dsimp only
 rw[AH]
 by_cases h14:x.Type_=14
 ·rw[if_pos (by rw[h14];rfl)]
  have hz:=XA hdd hv (B:=some (false,v2)) (G:=fun a q=>if (!q.2) then some (false,{ v2 with next:=a,new6:=q.1 }) else next ({ v2 with next:=a,new6:=q.1 },Cc v3 x.Type_ (AN ((BB v3 x.Type_).getD 0+1)))) rfl
  unfold spF at h4
  rw[if_pos h14] at h4
  cases hr:FY x.Data with
  | none=>
   rw[hr] at hz h4
   have h4:none=R:=h4
   subst h4
   rcases hz with hz | ⟨a,l,hz⟩
   ·exact⟨_,hz,rfl⟩
   exact⟨_,hz,rfl⟩
  | some q=>
   obtain⟨a,l⟩:=q
   rw[hr] at hz h4
   dsimp only at hz h4
   rw[if_neg (by decide)] at hz
   obtain⟨r,g1,g2⟩:=hn ({ v2 with next:=a,new6:=l },Cc v3 x.Type_ (AN ((BB v3 x.Type_).getD 0+1))) ⟨⟨c+1,e,by
    rw[mget_mset,if_pos h14.symm,h14,h1,Option.getD_some,AP (by omega)];omega,by
    rw[mget_mset,if_neg (by omega)];exact h2,by omega,h4⟩,hdt⟩
   exact⟨r,Eq.trans hz g1,g2⟩
 rw[if_neg (by simpa using h14),AH]
 unfold spF at h4
 rw[if_neg h14] at h4
 by_cases h15:x.Type_=15
 ·rw[if_pos (by rw[h15];rfl),AH]
  rw[if_pos h15] at h4
  by_cases hp:isP x.Data=true
  ·rw[if_pos hp] at hv
   obtain⟨rfl,rfl⟩:=Prod.mk.inj hv
   rw[if_pos rfl,G4 (by simp only[X17];omega),AC]
   rw[show E0 x.Data=_ from if_pos hp] at h4
   unfold aP
   cases hx:IL true (x.Data.drop 3) [] with
   | none=>
    rw[hx] at h4
    have h4:none=R:=h4
    subst h4
    exact⟨_,rfl,rfl⟩
   | some l=>
    rw[hx] at h4
    dsimp only at h4 ⊢
    rw[if_neg (by decide)]
    exact hn _ ⟨⟨c,e+1,by
     rw[mget_mset,if_neg (by omega)];exact h1,by
     rw[mget_mset,if_pos h15.symm,h15,h2,Option.getD_some,AP (by omega)];omega,by omega,h4⟩,hdt⟩
  rw[if_neg hp] at hv
  obtain⟨rfl,rfl⟩:=Prod.mk.inj hv
  rw[show E0 x.Data=none from if_neg hp] at h4
  have h4:none=R:=h4
  subst h4
  exact⟨_,rfl,rfl⟩
 rw[if_neg (by simpa using h15)]
 rw[if_neg h15] at h4
 dsimp only
 rw[if_neg (by decide)]
 refine hn _ ⟨⟨c,e,?_,?_,by omega,h4⟩,hdt⟩
 ·dsimp only
  rw[mget_mset,if_neg (by omega)];exact h1
 dsimp only
 rw[mget_mset,if_neg (by omega)];exact h2
theorem V8 {l:List JAA}(h :∃x∈C6 l 14,FY x.Data=none):F6 l=none:=by
 obtain⟨x,hx,hr⟩:=h
 unfold F6
 match C6 l 14,hx with
 | [y],hx=>
  rw[X14] at hx
  subst hx;exact hr
 | _::_::_,_=>rfl
theorem R7 {l:List JAA}(h :∃x∈C6 l 15,E0 x.Data=none):Dl l=none:=by
 obtain⟨x,hx,hr⟩:=h
 unfold Dl
 match C6 l 15,hx with
 | [y],hx=>
  rw[X14] at hx
  subst hx;exact hr
 | _::_::_,_=>rfl
theorem Vb {l:List JAA}(h:2<=(C6 l 14).length):F6 l=none:=by
 unfold F6
 match C6 l 14,h with
 | [],h=>simp at h
 | [_],h=>simp at h
 | _::_::_,_=>rfl
theorem SQ {l:List JAA}(h:2<=(C6 l 15).length):Dl l=none:=by
 unfold Dl
 match C6 l 15,h with
 | [],h=>simp at h
 | [_],h=>simp at h
 | _::_::_,_=>rfl
theorem SpR.reach {l:List JAA}{p q:JAH}{c c' e e':Nat}(h:SpR l p q c c' e e')(hp:p.next=zAd/\p.new6=[])(hn:(C6 l 14).length<2):F6 l=some (q.next,q.new6):=by
 have h0:=h.a0
 have h1:=h.a1
 unfold F6
 match C6 l 14,h0,h1,hn with
 | [],h0,_,_=>
  obtain⟨e1,e2⟩:=h0 rfl
  rw[e1,e2,hp.1,hp.2]
 | [x],_,h1,_=>exact h1 x rfl
 | _::_::t,_,_,hn=>exact absurd hn (by simp only[X12];omega)
theorem SpR.unreach {l:List JAA}{p q:JAH}{c c' e e':Nat}(h:SpR l p q c c' e e')(hp:p.gone6=[])(hn:(C6 l 15).length<2):Dl l=some q.gone6:=by
 have h0:=h.b0
 have h1:=h.b1
 unfold Dl
 match C6 l 15,h0,h1,hn with
 | [],h0,_,_=>
  have e1:=h0 rfl
  rw[e1,hp]
 | [x],_,h1,_=>exact h1 x rfl
 | _::_::t,_,_,hn=>exact absurd hn (by simp only[X12];omega)
theorem Ym {ρ:Type}(x y A B C D:Bool)(K:Bool->Option ρ):AI (τ:=Bool) (fun k18=>
     if (!x)=true then
      k18 true
     else
      if (cond false true (!y))=true then
       k18 true
      else
       if A=true then
        if (cond false true (cond true B false))=true then
         k18 true
        else
         if (cond false true C)=true then
          k18 true
         else
          k18 (cond false true D)
       else
        if (cond false true C)=true then
         k18 true
        else
         k18 (cond false true D)) K=K (!x || (!y || ((A&&B) || (C || D)))):=by
 rw[AH]
 cases x<;>cases y<;>cases A<;>cases B<;>cases C<;>cases D<;>rfl
theorem eO (old gone four six:List JAE):(decide ((four.length:Int) > 0)&&decide ((six.length:Int) > 0) || (decide ((old.length:Int)+gone.length > 256) || decide ((four.length:Int)+six.length > 256)))=!okN old gone four six:=by
 have e1:decide ((four.length:Int) > 0)=decide (0<four.length):=by rw[decide_eq_decide];omega
 have e2:decide ((six.length:Int) > 0)=decide (0<six.length):=by rw[decide_eq_decide];omega
 have e3:decide ((old.length:Int)+gone.length > 256)=!decide (old.length+gone.length<=256):=by rw[<- decide_not,decide_eq_decide];omega
 have e4:decide ((four.length:Int)+six.length > 256)=!decide (four.length+six.length<=256):=by rw[<- decide_not,decide_eq_decide];omega
 rw[e1,e2,e3,e4]
 unfold okN
 cases decide (0 < four.length)<;>cases decide (0 < six.length)<;>cases decide (old.length+gone.length<=256)<;>cases decide (four.length+six.length<=256)<;>rfl
theorem Nq {six:Bool}{b:List UInt8}{l:List JAE}(h:IL six b []=some l):l.length<=b.length:=by
 have:=YC six _ _ _ _ h
 simpa using this
theorem Uy {l:List JAA}{N:Nat}(hd :∀x∈l,x.Data.length<=N){p:List JAE}(h:Dl l=some p):p.length<=N:=by
 unfold Dl at h
 have hm :∀x∈C6 l 15,x.Data.length<=N:=fun x hx=>hd x (List.mem_filter.1 hx).1
 match C6 l 15,hm,h with
 | [],_,h=>obtain rfl:=X25 h;simp
 | [x],hm,h=>
  have h:E0 x.Data=some p:=h
  unfold E0 at h
  split at h
  ·have:=Nq h
   have:=hm x (by simp)
   simp only[X17] at *
   omega
  cases h
theorem W2 {l:List JAA}{N:Nat}(hd :∀x∈l,x.Data.length<=N){a:Addr}{p:List JAE}(h:F6 l=some (a,p)):p.length<=N:=by
 unfold F6 at h
 have hm :∀x∈C6 l 14,x.Data.length<=N:=fun x hx=>hd x (List.mem_filter.1 hx).1
 match C6 l 14,hm,h with
 | [],_,h=>
  simp only[X24,X26] at h
  obtain⟨_,rfl⟩:=h;simp
 | [x],hm,h=>
  have h:FY x.Data=some (a,p):=h
  unfold FY at h
  split at h
  ·obtain⟨q,hq,he⟩:=Option.map_eq_some_iff.1 h
   simp only[X26] at he
   obtain⟨_,rfl⟩:=he
   have:=Nq hq
   have:=hm x (by simp)
   simp only[X17] at *
   omega
  cases h
def p00:JAH:=⟨[],(⟨false,(0:UInt64),(0:UInt64)⟩:Addr),[],[],[],[]⟩
theorem Y7 {b:List UInt8}(hb:b.length<=400000) :∃r,DF p00 b=some r/\(match K9 b with
  | none=>r.1=false
  | some P=>r=(true,⟨P.l,P.next,P.old,P.gone,P.four,P.six⟩)):=by
 unfold DF K9
 rw[WE (by omega),AC]
 unfold Lj
 cases h1:IX b with
 | none=>exact⟨_,rfl,rfl⟩
 | some q=>
  obtain⟨w,b1⟩:=q
  have l1:=LU h1
  dsimp only
  rw[if_neg (by decide),WE (by omega),AC]
  unfold Lj
  cases h2:IX b1 with
  | none=>exact⟨_,rfl,rfl⟩
  | some q=>
   obtain⟨a,rest⟩:=q
   have l2:=LU h2
   dsimp only
   rw[if_neg (by decide),Wx (by omega),AC]
   unfold ac
   cases h3:P3 a [] with
   | none=>exact⟨_,rfl,rfl⟩
   | some l=>
    obtain⟨s1,s2⟩:=VO (by omega) h3
    dsimp only
    rw[MF,AH,if_neg (by decide)]
    obtain⟨r,hr,hq⟩:=Ue (p:={ p00 with attrs:=l }) (by show l.length<=_;omega) (fun x hx=>by have:=s2 x hx;omega)
    rw[hr,AC]
    have hq':(match spF l ({ p00 with attrs:=l },0,0) with
     | none=>r.1=false
     | some (q,c,e)=>r=(decide (c<2)&&decide (e<2),q)):=hq
    cases hs:spF l ({ p00 with attrs:=l },0,0) with
    | none=>
     rw[hs] at hq'
     rw[Ew ((M6 hs).imp V8 fun z=>.inl (R7 z))]
     obtain⟨r1,r2⟩:=r
     have hq':r1=false:=hq'
     subst hq'
     exact⟨_,rfl,rfl⟩
    | some z=>
     obtain⟨q,c,e⟩:=z
     rw[hs] at hq'
     have hq':r=(decide (c<2)&&decide (e<2),q):=hq'
     subst hq'
     have sp:=Nx hs
     have c0:=sp.c
     have e0:=sp.e
     rw[Nat.zero_add] at c0 e0
     by_cases hc:(decide (c<2)&&decide (e<2))=true
     case neg=>
      have:F6 l=none\/Dl l=none:=by
       rcases Nat.lt_or_ge c 2 with q1 | q1
       ·rcases Nat.lt_or_ge e 2 with q2 | q2
        ·exact absurd (by rw[decide_eq_true q1,decide_eq_true q2];rfl) hc
        exact .inr (SQ (by omega))
       exact .inl (Vb (by omega))
      rw[Ew (this.imp id .inl),Bool.not_eq_true _ |>.mp hc]
      exact⟨_,rfl,rfl⟩
     rw[hc]
     rw[X27,decide_eq_true_eq,decide_eq_true_eq] at hc
     have hR:=sp.reach ⟨rfl,rfl⟩ (by omega)
     have hU:=sp.unreach rfl (by omega)
     obtain⟨ka,k4,kn⟩:=sp.k
     have ka:q.attrs=l:=ka
     rw[hR,hU]
     have n6:=W2 (N:=400000) (fun x hx=>s2 x hx) hR
     have g6:=Uy (N:=400000) (fun x hx=>s2 x hx) hU
     dsimp only
     rw[if_neg (by decide),G4 (by omega),AC,G4 (by omega)]
     unfold aP
     cases hO:IL false w [] with
     | none=>rw[Ew (.inr (.inr (.inl rfl)))];exact⟨_,rfl,rfl⟩
     | some old=>
      have lo:=Nq hO
      cases hF:IL false rest [] with
      | none=>rw[Ew (.inr (.inr (.inr rfl)))];exact⟨_,rfl,rfl⟩
      | some four=>
       have lf:=Nq hF
       dsimp only
       rw[AC]
       dsimp only
       rw[Ym,AP (x:=(old.length:Int)+(q.gone6.length:Int)) (by omega),AP (x:=(four.length:Int)+(q.new6.length:Int)) (by omega),eO,ka,V4 ⟨by omega,fun x hx=>by have:=s2 x hx;omega⟩,AC]
       rw[MA]
       cases hk:okN old q.gone6 four q.new6 with
       | false=>
        rw[if_neg (show ¬ (false=true/\(rdS l).2≠12) by simp)]
        exact⟨_,rfl,rfl⟩
       | true=>
        rw[if_neg (by decide)]
        by_cases h12:(rdS l).2=12
        ·rw[if_neg (fun z=>z.2 h12)]
         refine⟨_,rfl,?_⟩
         show ((rdS l).2 != 12)=false
         rw[h12];rfl
        rw[if_pos ⟨rfl,h12⟩]
        refine⟨_,rfl,?_⟩
        have:((rdS l).2 != 12)=true:=by simpa using h12
        dsimp only
        rw[this,<- ka]
theorem GF {α σ ρ:Type}{K:σ->Option ρ}{b:(σ->Option ρ)->α->Nat->σ->Option ρ}{x:α}{t:List α}{i:Nat}{s:σ}:Ao K b (x::t) i s=b (fun s=>Ao K b t (i+1) s) x i s:=rfl
theorem RE {α σ ρ:Type}{K:σ->Option ρ}{b:(σ->Option ρ)->α->Nat->σ->Option ρ}{i:Nat}{s:σ}:Ao K b [] i s=K s:=rfl
theorem Ss {x y:List JAE}(hx:x.length<=100000)(hy:y.length<=100000):Az [x,y]=some (x++y):=by
 unfold Az
 rw[AH,GF]
 have e1:AN (0+(x.length:Int))=(x.length:Int):=by rw[AP (by omega)];omega
 have e2:AN ((x.length:Int)+(y.length:Int))=((x.length+y.length:Nat):Int):=by rw[AP (by omega)];omega
 rw[e1,if_neg (by simp only[decide_eq_true_eq];omega)]
 dsimp only
 rw[GF,e2,if_neg (by simp only[decide_eq_true_eq];omega)]
 dsimp only
 rw[RE]
 have e3:AN (((x.length+y.length:Nat):Int)-AN (0-0))=((x.length+y.length:Nat):Int):=by
  have:AN (0-0)=0:=AP (by omega)
  rw[this,AP (by omega)];omega
 have hk :∀(K:List JAE->Option (List JAE)),AI (τ:=(List JAE)) (fun k8=>
    if (decide ((AN (((x.length+y.length:Nat):Int)-(AN (0-0)))) > 0)) then
     Option.bind (chk (0<(AN (((x.length+y.length:Nat):Int)-(AN (0-0))))/\(AN (((x.length+y.length:Nat):Int)-(AN (0-0))))<=1048576)) fun _=>
     Option.bind (part (List.replicate (Int.toNat (AN (((x.length+y.length:Nat):Int)-(AN (0-0))))) (⟨(⟨false,(0:UInt64),(0:UInt64)⟩:Addr),0⟩:JAE)) 0 0) fun v9=>
     k8 v9
    else
     k8 []) K=K []:=by
  intro K
  rw[AH,e3]
  by_cases hz:x.length+y.length=0
  ·rw[if_neg (by simp only[decide_eq_true_eq];omega)]
  have p:part (List.replicate (Int.toNat ((x.length+y.length:Nat):Int)) (⟨(⟨false,(0:UInt64),(0:UInt64)⟩:Addr),0⟩:JAE)) 0 0=some []:=by
   have:=Ed (l:=List.replicate (Int.toNat ((x.length+y.length:Nat):Int)) (⟨(⟨false,(0:UInt64),(0:UInt64)⟩:Addr),0⟩:JAE)) (a:=0) (b:=0) (by omega) (by omega)
   rw[Nat.sub_self,List.take_zero] at this
   exact this
  rw[if_pos (by simp only[decide_eq_true_eq];omega),show chk _=some () from if_pos (by omega),AC,p,AC]
 rw[AH,if_neg (by simp only[decide_eq_true_eq];omega),hk]
 dsimp only
 rw[AH,GF,AO (by decide) (by simp only[X13];omega),AC]
 dsimp only
 rw[GF,AO (by decide) (by simp only[List.nil_append];omega),AC]
 dsimp only
 rw[RE,List.nil_append]
theorem WV (q:JAH)(t:Int):CY q t=some (Da q.attrs t,q):=by
 have main :∀(l:List JAA) (i:Nat),∃n:Int,Ao (σ:=Int) (fun v2=>some (-1,v2)) (fun next3 (x4:JAA) i5 v2=>Option.bind (C0 x4 v2) fun (v6,v7)=>if v6 then some ((i5:Int),v7) else next3 v7) l i t=some (n,t)/\decide (n ≥ 0)=Da l t:=by
  intro l
  induction l with
  | nil=>intro i;exact⟨-1,rfl,rfl⟩
  | cons x l ih=>
   intro i
   rw[GF]
   unfold C0
   rw[AC]
   dsimp only
   have hc:Da (x::l) t=((x.Type_==t) || Da l t):=by
    unfold Da
    rw[List.any_cons]
    congr 1
    exact X28.2 ⟨fun h=>by rw[beq_iff_eq] at h ⊢;exact h.symm,fun h=>by rw[beq_iff_eq] at h ⊢;exact h.symm⟩
   rw[hc]
   by_cases hx:(x.Type_==t)=true
   ·rw[if_pos hx,hx]
    exact⟨_,rfl,by simp⟩
   rw[if_neg hx,Bool.not_eq_true _ |>.mp hx]
   exact ih (i+1)
 obtain⟨n,h1,h2⟩:=main q.attrs 0
 unfold CY Ai Ak
 rw[AH]
 show Option.bind (Option.bind (Ao (σ:=Int) (fun v2=>some (-1,v2)) _ q.attrs 0 t) _) _=_
 rw[h1,AC,AC]
 dsimp only
 rw[h2]
theorem Xi (x:JAA):Bw x=some (flg x):=by
 unfold Bw flg
 rw[AH]
 show (if (x.Type_==14)=true then some (cond true (bt x.Flags 192 != 128) false) else if (cond false true (x.Type_==15))=true then some (cond true (bt x.Flags 192 != 128) false) else some false)=_
 cases (x.Type_==14)<;>cases (x.Type_==15)<;>cases (bt x.Flags 192 != 128)<;>rfl
theorem XZ (l:List JAA):Af l=some (l.any flg):=aO (f:=Bw) (q:=flg) fun x _=>Xi x
theorem ZC (P:Pt):DL ⟨P.l,P.next,P.old,P.gone,P.four,P.six⟩ (rdS P.l).1 (rdS P.l).2=some (Yp P,⟨P.l,P.next,P.old,P.gone,P.four,P.six⟩):=by
 unfold DL Yp
 rw[AH]
 by_cases he:(rdS P.l).2=0
 ·rw[if_neg (by rw[he];decide),XZ,AC,WV,AC,decide_eq_false (fun h=>h he)]
  dsimp only
  rw[WV,AC]
  dsimp only
  have e1:decide ((P.four.length:Int) > 0)=decide (0<P.four.length):=by rw[decide_eq_decide];omega
  rw[e1]
  show (if (cond false true (P.l.any flg))=true then _ else _)=_
  have ez:Addr.eqd (rdS P.l).1.Next (⟨false,(0:UInt64),(0:UInt64)⟩:Addr)=Addr.eqd (rdS P.l).1.Next zAd:=rfl
  rw[ez]
  cases P.l.any flg<;>cases Da P.l 1<;>cases Da P.l 2<;>cases decide (0 < P.four.length)<;>cases Addr.eqd (rdS P.l).1.Next zAd<;>rfl
 rw[if_pos (by simpa using he),decide_eq_true (p:=(rdS P.l).2≠0) he]
 rfl
structure PtOK (b:List UInt8)(P:Pt):Prop where
 ok:okN P.old P.gone P.four P.six=true
 ne:(rdS P.l).2≠12
 l:P.l.length<=400000
 d :∀x∈P.l,x.Data.length<=400000
 h :∃w b1 a rest,IX b=some (w,b1)/\IX b1=some (a,rest)/\P3 a []=some P.l/\F6 P.l=some (P.next,P.six)/\Dl P.l=some P.gone/\IL false w []=some P.old/\IL false rest []=some P.four
theorem Yw {b:List UInt8}(hb:b.length<=400000){P:Pt}(h:K9 b=some P):PtOK b P:=by
 unfold K9 at h
 split at h
 ·cases h
 rename_i w b1 h1
 have l1:=LU h1
 split at h
 ·cases h
 rename_i a rest h2
 have l2:=LU h2
 cases h3:P3 a [] with
 | none=>rw[h3] at h;cases h
 | some l=>
  rw[h3,MF] at h
  obtain⟨s1,s2⟩:=VO (by omega) h3
  cases hR:F6 l with
  | none=>rw[Ew (.inl hR)] at h;cases h
  | some q=>
   obtain⟨n,six⟩:=q
   cases hU:Dl l with
   | none=>rw[Ew (.inr (.inl hU))] at h;cases h
   | some gone=>
    cases hO:IL false w [] with
    | none=>rw[Ew (.inr (.inr (.inl hO)))] at h;cases h
    | some old=>
     cases hF:IL false rest [] with
     | none=>rw[Ew (.inr (.inr (.inr hF)))] at h;cases h
     | some four=>
      rw[hR,hU,hO,hF,MA] at h
      split at h
      ·rename_i hc
       obtain rfl:=X25 h
       exact⟨hc.1,hc.2,s1,s2,w,b1,a,rest,h1,h2,h3,hR,hU,hO,hF⟩
      cases h
theorem cm {old gone four six:List JAE}(h:okN old gone four six=true):old.length+gone.length<=256/\four.length+six.length<=256/\¬ (0<four.length/\0<six.length):=by
 unfold okN at h
 simp only[X27,Bool.not_eq_true',decide_eq_true_eq,Bool.and_eq_false_iff,decide_eq_false_iff_not] at h
 omega
theorem cN {α:Type}(l:List α):((l.length:Int)==0)=true↔l=[]:=by
 rw[beq_iff_eq,Int.natCast_eq_zero,List.length_eq_zero_iff]
theorem Vn {b:List UInt8}(hb:b.length<=400000):Fg b=some (cG b):=by
 unfold Fg cG
 obtain⟨r,hr,hq⟩:=Y7 hb
 show Option.bind (DF p00 b) _=_
 rw[hr,AC]
 cases hP:K9 b with
 | none=>
  rw[hP] at hq
  obtain⟨r1,r2⟩:=r
  have hq:r1=false:=hq
  subst hq
  rfl
 | some P=>
  rw[hP] at hq
  have hq:r=(true,⟨P.l,P.next,P.old,P.gone,P.four,P.six⟩):=hq
  subst hq
  obtain⟨p1,p2,p3,p4,_⟩:=Yw hb hP
  obtain⟨n1,n2,_⟩:=cm p1
  dsimp only
  rw[if_neg (by decide),Ss (by omega) (by omega),AC,show F3=some eA from rfl,AC,Ss (by omega) (by omega),AC]
  by_cases h0:P.four++P.six=[]
  ·rw[if_pos ((cN _).2 h0),if_pos h0]
  rw[if_neg (fun h=>h0 ((cN _).1 h)),if_neg h0,V4 ⟨by omega,fun x hx=>by have:=p4 x hx;omega⟩,AC]
  rw[ZC,AC]
  dsimp only
  by_cases hf:Yp P=true
  ·rw[if_pos hf,if_pos hf,AO (by decide) (by simp only[X11];omega),AC]
  rw[if_neg hf,if_neg hf,AH]
  by_cases h6:0<P.six.length
  ·rw[if_pos (by simp only[decide_eq_true_eq];omega),if_pos h6]
  rw[if_neg (by simp only[decide_eq_true_eq];omega),if_neg h6]
def wr (x:JAA)(n:Int):Bool:=decide (n > 0)&&(bt x.Flags 192 != 128)
theorem YK :∀(l:List JAA),l.any flg=((C6 l 14).any (fun x=>bt x.Flags 192 != 128) || (C6 l 15).any fun x=>bt x.Flags 192 != 128)
 | []=>rfl
 | x::t=>by
  rw[List.any_cons,YK t]
  unfold flg
  by_cases h14:x.Type_=14
  ·rw[G7 h14,C9 (by omega:x.Type_≠15),List.any_cons,h14]
   show ((true || _)&&_ || _)=_
   rw[Bool.true_or,Bool.true_and,Bool.or_assoc]
  by_cases h15:x.Type_=15
  ·rw[C9 h14,G7 h15,List.any_cons,h15]
   show ((false || true)&&_ || _)=_
   rw[Bool.false_or,Bool.true_and]
   generalize (C6 t 14).any _=a
   generalize (C6 t 15).any _=b
   generalize (bt x.Flags 192 != 128)=c
   cases a<;>cases b<;>cases c<;>rfl
  rw[C9 h14,C9 h15]
  have e1:(x.Type_==14)=false:=by simpa using h14
  have e2:(x.Type_==15)=false:=by simpa using h15
  rw[e1,e2];rfl
end Go.AX.Q19
end
