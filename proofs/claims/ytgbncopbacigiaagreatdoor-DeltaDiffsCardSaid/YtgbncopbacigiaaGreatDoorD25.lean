/-
  Texts of one proof, packed.
-/
import Derived.Test.YtgbncopbacigiaaGreatDoorD22
import Derived.Test.YtgbncopbacigiaaGreatDoorD24
set_option linter.all false
set_option maxRecDepth 100000
set_option maxHeartbeats 4000000
open List renaming length_map→X10,length_append→X11,length_cons→X12,mem_singleton→X14,getElem?_eq_getElem→X15,length_drop→X17,length_take→X18,mem_cons_of_mem→X19,length_replicate→X20,length_set→X21,mem_append→X23
open Option renaming bind→Xd
open Int renaming toNat→Xi
open List renaming take→Xaq,drop→Xat
open ByteArray renaming empty→Xaj
open List.Pairwise renaming nil→Xbq
section
namespace Go.AX.sN
universe u v
section
variable {α:Type v} {κ:Type u} [DecidableEq κ] {key:α->κ} {cmp:κ->κ->Int}
def Bi (key:α->κ)(l:O α)(p:κ):C α:=l.find? λx=>decide (key x=p)
def FR {l:O α}{p:κ}(h :∀x∈l,key x≠p):Bi key l p=none:=by unfold Bi;rw[List.find?_eq_none];intro x F;simpa using h x F
def BD {l:O α}{x:α}{p:κ}(h:key x≠p):Bi key (x::l) p=Bi key l p:=by unfold Bi;rw[List.find?_cons_of_neg (by simpa using h)]
def BE {l:O α}{x:α}{p:κ}(h:key x=p):Bi key (x::l) p=some x:=by unfold Bi;rw[List.find?_cons_of_pos (by simpa using h)]
def Gl {l:O α}{p:κ}{x:α}(h:Bi key l p=some x):x∈l/\key x=p:=by unfold Bi at h;exact⟨List.mem_of_find?_eq_some h,by simpa using List.find?_some h⟩
def jK (h:LO cmp){l:O α}(H:si key cmp l){x:α}(F:x∈l):Bi key l (key x)=some x:=by
 induction l with
 | nil=>cases F
 | cons y t J=>
  obtain⟨K,M⟩:=Wu.1 H;rcases Wp.1 F with rfl|F
  ·exact BE rfl
  rw[BD (h.ne (K x F)),J M F]
def uh (key:α->κ)(cmp:κ->κ->Int):O α->O α->O κ
 | [],b=>b.map key
 | x::a,[]=>key x::uh key cmp a []
 | x::a,y::b=>if cmp (key x) (key y)<0 then key x::uh key cmp a (y::b) else if 0<cmp (key x) (key y) then key y::uh key cmp (x::a) b else key x::uh key cmp a b termination_by a b=>a.length+b.length
def CX (key:α->κ)(cmp:κ->κ->Int)(same:α->α->I):O α->O α->O (κ×C α)
 | [],[]=>[]
 | [],y::b=>(key y,some y)::CX key cmp same [] b
 | x::a,[]=>(key x,none)::CX key cmp same a []
 | x::a,y::b=>
  if cmp (key x) (key y)<0 then (key x,none)::CX key cmp same a (y::b)
  else if 0<cmp (key x) (key y) then (key y,some y)::CX key cmp same (x::a) b
  else if same x y=true then CX key cmp same a b else (key y,some y)::CX key cmp same a b termination_by a b=>a.length+b.length
def Da (key:α->κ)(same:α->α->I)(a b:O α)(p:κ):C (κ×C α):=
 match Bi key a p,Bi key b p with
 | none,none=>none
 | some _,none=>some (p,none)
 | none,some y=>some (p,some y)
 | some x,some y=>if same x y=true then none else some (p,some y)
def Gu {same:α->α->I}{a b F H:O α}{p:κ}(J:Bi key a p=Bi key F p)(K:Bi key b p=Bi key H p):Da key same a b p=Da key same F H p:=by unfold Da;rw[J,K]
def EX (h:LO cmp) :∀(a b:O α) (p:κ),p∈uh key cmp a b↔p∈a.map key\/p∈b.map key
 | [],b,p=>by unfold uh;simp
 | x::a,[],p=>by unfold uh;rw[Wp,EX h a [] p];simp
 | x::a,y::b,p=>by
  unfold uh;split
  ·rw[Wp,EX h a (y::b) p];simp[or_assoc]
  split
  ·rw[Wp,EX h (x::a) b p];simp only[Xam,Wp];constructor
   ·rintro (h|(h|h)|h)
    ·exact .inr (.inl h)
    ·exact .inl (.inl h)
    ·exact .inl (.inr h)
    exact .inr (.inr h)
   rintro ((h|h)|(h|h))
   ·exact .inr (.inl (.inl h))
   ·exact .inr (.inl (.inr h))
   ·exact .inl h
   exact .inr (.inr h)
  have e:key x=key y:=h.eq.1 (by omega);rw[Wp,EX h a b p];simp only[Xam,Wp];constructor
  ·rintro (h|h|h)
   ·exact .inl (.inl h)
   ·exact .inl (.inr h)
   exact .inr (.inr h)
  rintro ((h|h)|(h|h))
  ·exact .inl h
  ·exact .inr (.inl h)
  ·exact .inl (h.trans e.symm)
  exact .inr (.inr h) termination_by a b=>a.length+b.length
def dR {l:O α}(F:si key cmp l):si (λp:κ=>p) cmp (l.map key):=by unfold si at F⊢;rw[List.pairwise_map];exact F
def L2 (h:LO cmp) :∀(a b:O α),si key cmp a->si key cmp b->si (λp:κ=>p) cmp (uh key cmp a b)
 | [],b,_,J=>by unfold uh;exact dR J
 | x::a,[],P,J=>by
  unfold uh;obtain⟨K,Q⟩:=Wu.1 P;refine Wu.2 ⟨λp hp=>?_,L2 h a [] Q J⟩;rcases (EX h a [] p).1 hp with hp|hp
  ·obtain⟨z,F,rfl⟩:=Xa0.1 hp;exact K z F
  cases hp
 | x::a,y::b,P,J=>by
  unfold uh;obtain⟨K,Q⟩:=Wu.1 P;obtain⟨b1,b2⟩:=Wu.1 J;split
  ·rename_i M;refine Wu.2 ⟨λp hp=>?_,L2 h a (y::b) Q J⟩;rcases (EX h a (y::b) p).1 hp with hp|hp
   ·obtain⟨z,F,rfl⟩:=Xa0.1 hp;exact K z F
   obtain⟨z,F,rfl⟩:=Xa0.1 hp;rcases Wp.1 F with rfl|F
   ·exact M
   exact h.trans M (b1 z F)
  split
  ·rename_i U;have H:cmp (key y) (key x)<0:=h.tY.2 U;refine Wu.2 ⟨λp hp=>?_,L2 h (x::a) b P b2⟩;rcases (EX h (x::a) b p).1 hp with hp|hp
   ·obtain⟨z,F,rfl⟩:=Xa0.1 hp;rcases Wp.1 F with rfl|F
    ·exact H
    exact h.trans H (K z F)
   obtain⟨z,F,rfl⟩:=Xa0.1 hp;exact b1 z F
  have e:key x=key y:=h.eq.1 (by omega);refine Wu.2 ⟨λp hp=>?_,L2 h a b Q b2⟩;rcases (EX h a b p).1 hp with hp|hp
  ·obtain⟨z,F,rfl⟩:=Xa0.1 hp;exact K z F
  obtain⟨z,F,rfl⟩:=Xa0.1 hp;rw[e];exact b1 z F termination_by a b=>a.length+b.length
def Jh {F:Type v}{l:O κ}{f g:κ->C F}(h :∀p∈l,f p=g p):l.filterMap f=l.filterMap g:=by
 induction l with
 | nil=>rfl
 | cons p t H=>rw[Xbc,Xbc,h p (by simp),H λq J=>h q (X19 _ J)]
def H7 (h:LO cmp)(same:α->α->I) :∀(a b:O α),si key cmp a->si key cmp b->(uh key cmp a b).filterMap (Da key same a b)=CX key cmp same a b
 | [],[],_,_=>by unfold uh CX;rfl
 | [],y::b,J,K=>by
  obtain⟨b1,b2⟩:=Wu.1 K;unfold CX;rw[<- H7 h same [] b J b2];have e :∀l:O α,uh key cmp [] l=l.map key:=λl=>by unfold uh;rfl
  rw[e,e,Xam,Xbc];have e1:Da key same [] (y::b) (key y)=some (key y,some y):=by unfold Da;rw[FR (l:=[]) (by simp),BE rfl]
  rw[e1];dsimp only;congr 1;refine Jh λp hp=>Gu rfl (BD ?_);obtain⟨z,F,rfl⟩:=Xa0.1 hp;exact h.ne (b1 z F)
 | x::a,[],J,K=>by
  obtain⟨M,U⟩:=Wu.1 J;unfold CX uh;rw[<- H7 h same a [] U K,Xbc];have e1:Da key same (x::a) [] (key x)=some (key x,none):=by unfold Da;rw[FR (l:=[]) (by simp),BE rfl]
  rw[e1];dsimp only;congr 1;refine Jh λp hp=>Gu (BD ?_) rfl;rcases (EX h a [] p).1 hp with hp|hp
  ·obtain⟨z,F,rfl⟩:=Xa0.1 hp;exact h.ne (M z F)
  cases hp
 | x::a,y::b,J,K=>by
  obtain⟨M,U⟩:=Wu.1 J;obtain⟨b1,b2⟩:=Wu.1 K;unfold CX uh;split
  ·rename_i P;rw[<- H7 h same a (y::b) U K,Xbc];have Y :∀z∈y::b,cmp (key x) (key z)<0:=λz F=>by
    rcases Wp.1 F with rfl|F
    ·exact P
    exact h.trans P (b1 z F)
   have e1:Da key same (x::a) (y::b) (key x)=some (key x,none):=by unfold Da;rw[FR (l:=y::b) (λz F=>(h.ne (Y z F)).symm),BE rfl]
   rw[e1];dsimp only;congr 1;refine Jh λp hp=>Gu (BD ?_) rfl;rcases (EX h a (y::b) p).1 hp with hp|hp
   ·obtain⟨z,F,rfl⟩:=Xa0.1 hp;exact h.ne (M z F)
   obtain⟨z,F,rfl⟩:=Xa0.1 hp;exact h.ne (Y z F)
  split
  ·rename_i V;have H:cmp (key y) (key x)<0:=h.tY.2 V;rw[<- H7 h same (x::a) b J b2,Xbc];have Z :∀z∈x::a,cmp (key y) (key z)<0:=λz F=>by
    rcases Wp.1 F with rfl|F
    ·exact H
    exact h.trans H (M z F)
   have e1:Da key same (x::a) (y::b) (key y)=some (key y,some y):=by unfold Da;rw[FR (l:=x::a) (λz F=>(h.ne (Z z F)).symm),BE rfl]
   rw[e1];dsimp only;congr 1;refine Jh λp hp=>Gu rfl (BD ?_);rcases (EX h (x::a) b p).1 hp with hp|hp
   ·obtain⟨z,F,rfl⟩:=Xa0.1 hp;exact h.ne (Z z F)
   obtain⟨z,F,rfl⟩:=Xa0.1 hp;exact h.ne (b1 z F)
  have e:key x=key y:=h.eq.1 (by omega);rw[<- H7 h same a b U b2,Xbc];have e1:Da key same (x::a) (y::b) (key x)=if same x y=true then none else some (key y,some y):=by unfold Da;rw[BE rfl,BE e.symm,e]
  have e2:(uh key cmp a b).filterMap (Da key same (x::a) (y::b))=(uh key cmp a b).filterMap (Da key same a b):=by
   refine Jh λp hp=>?_;have Q:key x≠p:=by
    rcases (EX h a b p).1 hp with hp|hp
    ·obtain⟨z,F,rfl⟩:=Xa0.1 hp;exact h.ne (M z F)
    obtain⟨z,F,rfl⟩:=Xa0.1 hp;rw[e];exact h.ne (b1 z F)
   exact Gu (BD Q) (BD (e▸Q))
  rw[e1,e2];cases hs:same x y
  ·rfl
  rfl termination_by a b=>a.length+b.length
def fU (h:LO cmp)(same:α->α->I){a b:O α}(F:si key cmp a)(H:si key cmp b){w:O κ}(J:si (λp:κ=>p) cmp w)(K :∀p,p∈w↔p∈a.map key\/p∈b.map key):w.filterMap (Da key same a b)=CX key cmp same a b:=by rw[<- H7 h same a b F H];congr 1;exact YY h J (L2 h a b F H) λp=>(K p).trans (EX h a b p).symm
end
end Go.AX.sN
end
section
namespace Go.AX.sN
universe u v
section
variable {α:Type v} {κ:Type u} [DecidableEq κ] {key:α->κ} {cmp:κ->κ->Int}
def IW (key:α->κ)(p:κ)(l:O α):O α:=l.filter λx=>!decide (key x=p)
def U8 (key:α->κ)(cmp:κ->κ->Int)(r:α)(l:O α):O α:=l.filter (λx=>decide (cmp (key x) (key r)<0))++r::l.filter λx=>decide (0<cmp (key x) (key r))
def PN (key:α->κ)(cmp:κ->κ->Int)(l:O α)(c:κ×C α):O α:=match c.2 with
 | none=>IW key c.1 l
 | some r=>U8 key cmp r (IW key c.1 l)
def SG (key:α->κ)(l:O α)(c:κ×C α):O α:=match c.2 with
 | none=>IW key c.1 l
 | some r=>IW key c.1 l++[r]
def uM (key:α->κ)(c:κ×C α):Prop:=∀r,c.2=some r->key r=c.1
def eX (h:LO cmp){l:O α}(F:si key cmp l){x:α}:x∈l↔Bi key l (key x)=some x:=
 ⟨jK h F,λe=>(Gl e).1⟩
def YD {l:O α}(H:(l.map key).Nodup){x:α}(F:x∈l):Bi key l (key x)=some x:=by
 induction l with
 | nil=>cases F
 | cons y t J=>
  rw[Xam,List.nodup_cons] at H;rcases Wp.1 F with rfl|F
  ·exact BE rfl
  rw[BD (λe=>H.1 (Xa0.2 ⟨x,F,e.symm⟩)),J H.2 F]
def J6 {l:O α}{f:α->I}{q:κ}(F :∀x∈l,key x=q->f x=true):Bi key (l.filter f) q=Bi key l q:=by
 induction l with
 | nil=>rfl
 | cons y t K=>
  have H:=K λx M=>F x (X19 _ M);by_cases e:key y=q
  ·rw[List.filter_cons_of_pos (F y (by simp) e),BE e,BE e]
  rw[BD e];cases J:f y
  ·rw[Xba (by simp[J]),H]
  rw[List.filter_cons_of_pos J,BD e,H]
def Vv {l m:O α}{q:κ}:Bi key (l++m) q=match Bi key l q with
  | some x=>some x
  | none=>Bi key m q:=by
 unfold Bi;rw[List.find?_append];cases l.find? λx=>decide (key x=q)<;>rfl
def MH {l:O α}{p q:κ}:Bi key (IW key p l) q=if q=p then none else Bi key l q:=by
 unfold IW;split
 ·rename_i e;refine FR λx F=>?_;have:=(Xah.1 F).2;rw[e];simpa using this
 rename_i e;exact J6 λx _ F=>by have:key x≠p:=λh=>e (F▸h);simpa using this
def fY (h:LO cmp){l:O α}{r:α}{q:κ}:Bi key (U8 key cmp r l) q=if q=key r then some r else Bi key l q:=by
 unfold U8;rw[Vv];by_cases e:q=key r
 ·rw[Xy e,FR (l:=l.filter λx=>decide (cmp (key x) (key r)<0)) (λx F=>by
   have:=(Xah.1 F).2;rw[e]
   exact h.ne (by simpa using this))]
  exact BE e.symm
 rw[Xj e];by_cases J:cmp q (key r)<0
 ·rw[J6 (λx _ F=>by rw[F];exact Wd J)];have e2:Bi key (r::l.filter λx=>decide (0<cmp (key x) (key r))) q=none:=FR λx F=>by
   rcases Wp.1 F with rfl|F
   ·exact λH=>e H.symm
   have:=(Xah.1 F).2;intro H;rw[H] at this;have M:0<cmp q (key r):=by simpa using this
   omega
  rw[e2];cases Bi key l q<;>rfl
 have K:0<cmp q (key r):=by have:cmp q (key r)≠0:=λH=>e (h.eq.1 H);omega
 have e2:Bi key (l.filter λx=>decide (cmp (key x) (key r)<0)) q=none:=FR λx F=>by
  have:=(Xah.1 F).2;intro H;rw[H] at this;have M:cmp q (key r)<0:=by simpa using this
  omega
 rw[e2];dsimp only;rw[BD (λH=>e H.symm),J6 (λx _ F=>by rw[F];exact Wd K)]
def lr (h:LO cmp){l:O α}{c:κ×C α}(F:uM key c){q:κ}:Bi key (PN key cmp l c) q=if q=c.1 then c.2 else Bi key l q:=by
 obtain⟨p,o⟩:=c;cases o with
 | none=>exact MH
 | some r=>have e:key r=p:=F r rfl;show Bi key (U8 key cmp r (IW key p l)) q=_;rw[fY h,MH,e];split<;>rfl
def mI {l:O α}{c:κ×C α}(H:uM key c){q:κ}:Bi key (SG key l c) q=if q=c.1 then c.2 else Bi key l q:=by
 obtain⟨p,o⟩:=c;cases o with
 | none=>exact MH
 | some r=>
  have e:key r=p:=H r rfl;show Bi key (IW key p l++[r]) q=_;rw[Vv,MH];by_cases F:q=p
  ·rw[Xy F,Xy F];exact BE (e.trans F.symm)
  rw[Xj F,Xj F];rw[BD (λJ=>F (J.symm.trans e))];cases Bi key l q<;>rfl
def Yz (h:LO cmp){l:O α}{r:α}(H:si key cmp l):si key cmp (U8 key cmp r l):=by
 unfold U8;refine Xb0.2 ⟨EP H,Wu.2 ⟨λy K=>?_,EP H⟩,λa M b F=>?_⟩
 ·have:=(Xah.1 K).2;exact h.tY.2 (by simpa using this)
 have J:cmp (key a) (key r)<0:=by simpa using (Xah.1 M).2
 rcases Wp.1 F with rfl|F
 ·exact J
 have P:0<cmp (key b) (key r):=by simpa using (Xah.1 F).2
 exact h.trans J (h.tY.2 P)
def lF (h:LO cmp){l:O α}(F:si key cmp l)(c:κ×C α):si key cmp (PN key cmp l c):=by
 obtain⟨p,o⟩:=c;cases o with
 | none=>exact EP F
 | some r=>exact Yz h (EP F)
def jI {l:O α}(J:(l.map key).Nodup){c:κ×C α}(K:uM key c):((SG key l c).map key).Nodup:=by
 have F :∀p,((IW key p l).map key).Nodup:=λp=>List.Nodup.sublist (List.Sublist.map _ List.filter_sublist) J;obtain⟨p,o⟩:=c;cases o with
 | none=>exact F p
 | some r=>
  have e:key r=p:=K r rfl;show ((IW key p l++[r]).map key).Nodup;rw[List.map_append,Xbw];refine⟨F p,by simp,λa M b H=>?_⟩;obtain⟨x,P,rfl⟩:=Xa0.1 M;have Q:key x≠p:=by simpa using (Xah.1 P).2
  rw[Xam,List.map_nil,X14] at H;rw[H,e];exact Q
def SI (key:α->κ)(cmp:κ->κ->Int)(l:O α)(m:O (κ×C α)):O α:=m.foldl (PN key cmp) l
def QR (key:α->κ)(l:O α)(m:O (κ×C α)):O α:=m.foldl (SG key) l
def V2 (h:LO cmp) :∀(m:O (κ×C α)) {l:O α},si key cmp l->si key cmp (SI key cmp l m)
 | [],_,F=>F
 | c::m,_,F=>V2 h m (lF h F c)
def OZ :∀(m:O (κ×C α)) {l:O α},(∀c∈m,uM key c)->(l.map key).Nodup->((QR key l m).map key).Nodup
 | [],_,_,F=>F
 | c::m,_,hm,F=>OZ m (λd H=>hm d (X19 _ H)) (jI F (hm c (by simp)))
def SH (h:LO cmp){q:κ} :∀(m:O (κ×C α)) {l k:O α},(∀c∈m,uM key c)->Bi key l q=Bi key k q->Bi key (SI key cmp l m) q=Bi key (QR key k m) q
 | [],_,_,_,e=>e
 | c::m,_,_,hm,e=>SH h m (λd F=>hm d (X19 _ F)) (by rw[lr h (hm c (by simp)),mI (hm c (by simp)),e])
def Zd (h:LO cmp){l:O α}(H:si key cmp l):(l.map key).Nodup:=by unfold List.Nodup;rw[List.pairwise_map];exact List.Pairwise.imp (λF=>h.ne F) H
def fE (h:LO cmp){l:O α}(H:(l.map key).Nodup)(J:l.Pairwise λa b=>¬ cmp (key b) (key a)<0):si key cmp l:=by unfold List.Nodup at H;rw[List.pairwise_map] at H;refine List.Pairwise.imp (λ{a b} F=>?_) (List.Pairwise.and J H);have K:cmp (key a) (key b)≠0:=λe=>F.2 (h.eq.1 e);have M:¬ 0<cmp (key a) (key b):=λq=>F.1 (h.tY.2 q);omega
def Z1 (h:LO cmp){l:O α}(J:si key cmp l){m:O (κ×C α)}(K :∀c∈m,uM key c){s:O α}(hp:s.Perm (QR key l m))(P:s.Pairwise λa b=>¬ cmp (key b) (key a)<0):s=SI key cmp l m:=by have M:=OZ m K (Zd h J);have H:(s.map key).Nodup:=(List.Perm.nodup_iff (hp.map key)).2 M;have F:=V2 h m J;refine YY h (fE h H P) F λx=>?_;rw[hp.mem_iff,eX h F,SH h m K rfl];exact⟨YD M,λe=>(Gl e).1⟩
end
end Go.AX.sN
end
section
namespace Go.AX.sN
universe u v
section
variable {α:Type v} {κ:Type u} [DecidableEq κ] {key:α->κ} {cmp:κ->κ->Int}
def Zy {same:α->α->I}{a b:O α}{p:κ}{c:κ×C α}(h:Da key same a b p=some c):c.1=p:=by
 unfold Da at h;cases H:Bi key a p with
 | none=>
  rw[H] at h;cases F:Bi key b p with
  | none=>rw[F] at h;cases h
  | some y=>rw[F] at h;cases h;rfl
 | some x=>
  rw[H] at h;cases F:Bi key b p with
  | none=>rw[F] at h;cases h;rfl
  | some y=>
   rw[F] at h;dsimp only at h;split at h
   ·cases h
   cases h;rfl
def fa {same:α->α->I}{a b:O α}{p:κ}{c:κ×C α}(h:Da key same a b p=some c):uM key c:=by
 have K:=Zy h;unfold Da at h;intro r H;rw[K];cases J:Bi key a p with
 | none=>
  rw[J] at h;cases F:Bi key b p with
  | none=>rw[F] at h;cases h
  | some y=>rw[F] at h;cases h;cases H;exact (Gl F).2
 | some x=>
  rw[J] at h;cases F:Bi key b p with
  | none=>rw[F] at h;cases h;cases H
  | some y=>
   rw[F] at h;dsimp only at h;split at h
   ·cases h
   cases h;cases H;exact (Gl F).2
def gJ (h:LO cmp){same:α->α->I}{a b:O α}(F:si key cmp a)(H:si key cmp b) :∀c∈CX key cmp same a b,uM key c:=by rw[<- H7 h same a b F H];intro c J;obtain⟨p,_,hp⟩:=List.mem_filterMap.1 J;exact fa hp
end
end Go.AX.sN
end
section
namespace Go.AX.Q29
open Go Go.AX Go.AX.sN
instance:DecidableEq fv:=λa b=>decidable_of_iff _ (fv.rb a b)
def xK (p:fv):fv:=p
def Jq (l:O fv):Prop:=si xK Ab l
def Je (l:O fv)(p:fv):O fv:=(l.filter λq=>decide (Ab q p<0))++p::l.filter λq=>decide (0<Ab q p)
def eV {l:O fv}{p x:fv}:x∈Je l p↔x∈l\/x=p:=by
 unfold Je;simp only[X23,Wp,Xah,Xe];constructor
 ·rintro (⟨h,_⟩|h|⟨h,_⟩)
  ·exact .inl h
  ·exact .inr h
  exact .inl h
 rintro (h|h)
 ·by_cases e:x=p
  ·exact .inr (.inl e)
  have H:Ab x p≠0:=λq=>e (Ap.eq.1 q);by_cases F:Ab x p<0
  ·exact .inl ⟨h,F⟩
  exact .inr (.inr ⟨h,by omega⟩)
 exact .inr (.inl h)
def PR {l:O fv}{p:fv}(h:Jq l):Jq (Je l p):=Yz (key:=xK) Ap (r:=p) h
def Ii {α:Type}{f:α->I}{l:O α}(h :∀x∈l,f x=true):l.filter f=l:=Xc8.2 h
def IN {α:Type}{f:α->I}{l:O α}(h :∀x∈l,f x=false):l.filter f=[]:=List.filter_eq_nil_iff.2 λx F=>by rw[h x F];decide
def UE {l1 l2:O fv}{p:fv}(H:At xK Ab p l1 l2):Je (l1++l2) p=l1++p::l2:=by unfold Je;have J :∀q∈l1,Ab q p<0:=H.1;have K :∀q∈l2,0<Ab q p:=H.2;rw[Xaa,Xaa,Ii λx F=>Wd (J x F),IN λx F=>Ws (by have:=K x F;omega), IN (l:=l1) λx F=>Ws (by have:=J x F;omega),Ii (l:=l2) λx F=>Wd (K x F)];simp
def US {l1 l2:O fv}{p:fv}(H:At xK Ab p l1 l2):Je (l1++p::l2) p=l1++p::l2:=by unfold Je;have J :∀q∈l1,Ab q p<0:=H.1;have K :∀q∈l2,0<Ab q p:=H.2;have M:Ab p p=0:=Ap.eq.2 rfl;rw[Xaa,Xaa,Xba (by simp[M]),Xba (by simp[M]),Ii λx F=>Wd (J x F),IN λx F=>Ws (by have:=K x F;omega), IN (l:=l1) λx F=>Ws (by have:=J x F;omega),Ii (l:=l2) λx F=>Wd (K x F)];simp
def PG {ρ:Type}{l1 l2:O fv}{p:fv}(Y :∀q∈l1,Ab q p<0)(Z :∀y t,l2=y::t->¬ Ab y p<0)(hl:(l1++l2).length<=1000000)(K:Int->C ρ) : AC (τ:=Int) (λM=>Ai (σ:=Int) (λF H=>AC (τ:=I) (λJ=>if (decide (H<((l1++l2).length:Int))) then Xd (iX (l1++l2) H) λP=>Xd (BP P p) λQ=>J (cond true (decide (Q<0)) false) else J false ) λU=>if U then F (AQ (H+1)) else M H ) rp 0 ) K=K (l1.length:Int):=by
 rw[AB];have V:(l1++l2).length=l1.length+l2.length:=by simp
 refine Cm (λv:Int=>0<=v/\v<=l1.length) (λv=>(l1.length-v).toNat) (λ_=>K (l1.length:Int)) ?_ rp 0 ⟨by omega,by omega⟩ (BK (by omega));intro next v hv ih
 obtain⟨v,rfl⟩ :∃n:Nat,v=(n:Int):=⟨v.toNat,by omega⟩;rw[AB];by_cases h:v<l1.length
 ·rw[Xy (by simp;omega),As (by omega),AA,EH,AA];have:(l1++l2)[v]'(by omega)=l1[v]:=Xa2 h;rw[this,show decide (Ab l1[v] p<0)=true from Wd (Y _ (Wx h))];show (if true=true then _ else _)=_;rw[Xy rfl,AN (by omega)];exact ih _ ⟨by omega,by omega⟩ (by omega)
 have e:v=l1.length:=by omega
 subst e;cases l2 with
 | nil=>rw[Xj (by simp)];show (if false=true then _ else _)=_;rw[Xj (by simp)]
 | cons y t=>rw[Xy (by simp;omega),F3,AA,EH,AA];rw[show decide (Ab y p<0)=false from Ws (Z y t rfl)];show (if false=true then _ else _)=_;rw[Xj (by simp)]
def gR {ρ:Type}{l1 l2:O fv}{p:fv}(Q:(l1++l2).length<=1000000)(K:O fv->C ρ) : (Xd (sR (0<=(l1.length:Int)/\(l1.length:Int)<=((l1++l2).length:Int)/\((l1++l2).length:Int)<=((l1++l2).length:Int))) λ_=>Xd (gE (α:=fv) 32 [] (Xaq (Xi ((l1++l2).length:Int)-Xi (l1.length:Int)) (Xat (Xi (l1.length:Int)) (l1++l2)))) λ_=>Xd (part (l1++l2) 0 (l1.length:Int)) λH=>Xd (gE (α:=fv) 32 H ([p]:O fv)) λJ=>Xd (gE (α:=fv) 32 J (Xaq (Xi ((l1++l2).length:Int)-Xi (l1.length:Int)) (Xat (Xi (l1.length:Int)) (l1++l2)))) λM=>K M)=K (l1++p::l2):=by
 have F:(l1++l2).length=l1.length+l2.length:=by simp
 have P:Xaq (Xi ((l1++l2).length:Int)-Xi (l1.length:Int)) (Xat (Xi (l1.length:Int)) (l1++l2))=l2:=by rw[Xa7,Xa7,List.drop_left,F,Nat.add_sub_cancel_left,Xcj]
 have hp:part (l1++l2) 0 (l1.length:Int)=some l1:=by have:=Hu (l:=l1++l2) (a:=0) (b:=l1.length) (by omega) (by omega);simpa using this
 rw[TF ⟨by omega,by omega,by omega⟩,P,AD (by decide) (by simp;omega),AA,hp,AA,AD (by decide) (by simp;omega),AA,AD (by decide) (by simp;omega),AA];simp
def QB {l:O fv}{p:fv}(h:Jq l):(Je l p).length<=l.length+1:=by
 rcases split Ap h p with ⟨H,x,J,rfl,e,F⟩|⟨H,J,rfl,F⟩
 ·have K:x=p:=e;subst K;rw[US F];omega
 rw[UE F];simp only[X11,X12];omega
def o8 {ρ:Type}{l:O fv}{p:fv}(hs:Jq l)(hl:l.length<=100000)(K:O fv->C ρ) : AC (τ:=(O fv)) (λP=>AC (τ:=Int) (λV=>Ai (σ:=Int) (λH J=>AC (τ:=I) (λQ=>if (decide (J<(l.length:Int))) then Xd (iX l J) λY=>Xd (BP Y p) λZ=>Q (cond true (decide (Z<0)) false) else Q false ) λa6=>if a6 then H (AQ (J+1)) else V J ) rp 0 ) λF=>AC (τ:=I) (λU=>if (decide (F<(l.length:Int))) then Xd (iX l F) λa7=>U (cond true (fv.rO a7 p) false) else U false ) λa8=>if a8 then P l else Xd (sR (0<=F/\F<=(l.length:Int)/\(l.length:Int)<=(l.length:Int))) λ_=>Xd (gE (α:=fv) 32 [] (Xaq (Xi (l.length:Int)-Xi F) (Xat (Xi F) l))) λ_=>Xd (part l 0 F) λaa=>Xd (gE (α:=fv) 32 aa ([p]:O fv)) λab=>Xd (gE (α:=fv) 32 ab (Xaq (Xi (l.length:Int)-Xi F) (Xat (Xi F) l))) λae=>P ae ) K=K (Je l p):=by
 rw[AB];rcases split Ap hs p with ⟨l1,x,l2,rfl,e,M⟩|⟨l1,l2,rfl,M⟩
 ·have e':x=p:=e;subst e';have a1 :∀q∈l1,Ab q x<0:=M.1;rw[PG (l2:=x::l2) a1 (λy t hy=>by cases hy;have:Ab x x=0:=Ap.eq.2 rfl;omega) (by omega),AB,Xy (by simp;omega),F3,AA,(fv.rb x x).2 rfl];show (if true=true then _ else _)=_;rw[Xy rfl,US M]
 have a1 :∀q∈l1,Ab q p<0:=M.1;have a2 :∀q∈l2,0<Ab q p:=M.2;rw[PG a1 (λy t hy=>by have:=a2 y (by rw[hy];simp);omega) (by omega),AB,UE M];have hr:=gR (p:=p) (l1:=l1) (l2:=l2) (by omega) K;cases l2 with
 | nil=>rw[Xj (by simp)];show (if false=true then _ else _)=_;rw[Xj (by simp)];exact hr
 | cons y t=>
  rw[Xy (by simp;omega),F3,AA];have:fv.rO y p=false:=by
   cases hq:fv.rO y p with
   | false=>rfl
   | true=>have:=(fv.rb y p).1 hq;have h3:=a2 y (by simp);rw[this,Ap.eq.2 rfl] at h3;omega
  rw[this];show (if false=true then _ else _)=_;rw[Xj (by simp)];exact hr
def JI {α σ ρ:Type}{K:σ->C ρ}{body:(σ->C ρ)->α->Nat->σ->C ρ}(st:σ->α->σ)(I:Nat->σ->Prop) :∀(l:O α) (i:Nat) (s:σ), (∀x∈l,∀n s,I (n+1) s->I n (st s x))->(∀next x j s n,x∈l->I (n+1) s->body next x j s=next (st s x))->I l.length s->AI K body l i s=K (l.foldl st s)
 | [],_,_,_,_,_=>rfl
 | x::t,i,s,H,J,h=>by show body (λM=>AI K body t (i+1) M) x i s=_;rw[J _ x i s t.length (by simp) h];exact JI st I t (i+1) (st s x) (λy F=>H y (X19 _ F)) (λnext y j s n F=>J next y j s n (X19 _ F)) (H x (by simp) _ _ h)
def JQ (l:O fv)(b:pk):O fv:=b.gN.foldl (λl h=>Je l h.gD.fv) l
def QQ (s:re):O fv:=s.o3.foldl JQ []
def LS {α:Type}(key:α->fv) :∀(t:O α) {l:O fv},Jq l->Jq (t.foldl (λl x=>Je l (key x)) l)/\(t.foldl (λl x=>Je l (key x)) l).length<=l.length+t.length/\∀p,p∈t.foldl (λl x=>Je l (key x)) l↔p∈l\/p∈t.map key
 | [],l,h=>⟨h,Xa8 _,λp=>by simp⟩
 | x::t,l,h=>by obtain⟨F,J,H⟩:=LS key t (PR (p:=key x) h);have:=QB (p:=key x) h;refine⟨F,by simp only[Xai,X12];omega,λp=>?_⟩;rw[Xai,H,eV,Xam,Wp,or_assoc]
def Jj {l:O fv}(b:pk)(h:Jq l):Jq (JQ l b)/\(JQ l b).length<=l.length+b.gN.length/\∀p,p∈JQ l b↔p∈l\/p∈ZG b:=
 LS (λh:gN=>h.gD.fv) b.gN h
def ON :∀(t:O pk) {l:O fv},Jq l->Jq (t.foldl JQ l)/\∀p,p∈t.foldl JQ l↔p∈l \/∃b∈t,p∈ZG b
 | [],l,h=>⟨h,λp=>by simp⟩
 | b::t,l,h=>by
  obtain⟨H,P,J⟩:=Jj b h;obtain⟨K,M⟩:=ON t H;refine⟨K,λp=>?_⟩;rw[Xai,M,J];constructor
  ·rintro ((q|q)|⟨c,F,q⟩)
   ·exact .inl q
   ·exact .inr ⟨b,by simp,q⟩
   exact .inr ⟨c,X19 _ F,q⟩
  rintro (q|⟨c,F,q⟩)
  ·exact .inl (.inl q)
  rcases Wp.1 F with rfl|F
  ·exact .inl (.inr q)
  exact .inr ⟨c,F,q⟩
def aD (s:re):Jq (QQ s):=(ON s.o3 Xbq).1
def xU (l:O fv)(h:gN):O fv:=Je l h.gD.fv
def iH (m:Nat)(l:O fv):Prop:=Jq l/\l.length+m<=60000
def iB (n:Nat)(l:O fv):Prop:=Jq l/\l.length+256*n<=20000
def o6 {ρ:Type}{next:O fv->C ρ}{body:(O fv->C ρ)->gN->Nat->O fv->C ρ}{t:O gN}{l:O fv}(F:iH t.length l) (H :∀next x j l m,x∈t->iH (m+1) l->body next x j l=next (xU l x)):AI next body t 0 l=next (t.foldl xU l):=by refine JI xU iH t 0 l ?_ H F;intro x _ m l h;exact⟨PR h.1,by have:=QB (p:=x.gD.fv) h.1;have:=h.2;unfold xU;omega⟩
def nc {ρ:Type}{next:O fv->C ρ}{body:(O fv->C ρ)->pk->Nat->O fv->C ρ}{t:O pk}(K:t.length<=64)(H :∀b∈t,b.gN.length<=256) (F :∀next x j l m,x∈t->iB (m+1) l->body next x j l=next (JQ l x)):AI next body t 0 []=next (t.foldl JQ []):=by refine JI JQ iB t 0 [] ?_ F ⟨Xbq,by simp;omega⟩;intro b F n l h;obtain⟨J,M,_⟩:=Jj b h.1;have:=H b F;have:=h.2;exact⟨J,by omega⟩
def Xw {s:re}(H:s.o3.length<=64)(F :∀b∈s.o3,b.gN.length<=256):ES s=some (QQ s):=by
 unfold ES;rw[AB];refine (nc H F ?_).trans rfl;intro next b j l n J h
 have K:=F b J;have M:=h.2;rw[AB,AB];refine o6 ⟨h.1,by omega⟩ ?_;intro next x j l m _ h
 have P:l.length<=100000:=by have:=h.2;omega
 exact o8 (p:=x.gD.fv) h.1 P next
def kR (r:gD):fv:=r.fv
def xx (l:O fv)(r:gD):O fv:=Je l r.fv
def jH (a b:O gD):O fv:=(a++b).foldl xx []
def YG (a b:O gD):Jq (jH a b)/\(jH a b).length<=a.length+b.length/\∀p,p∈jH a b↔p∈a.map kR\/p∈b.map kR:=by obtain⟨F,H,J⟩:=LS kR (a++b) (l:=[]) Xbq;refine⟨F,Xa3 H (by simp),λp=>?_⟩;show p∈List.foldl (λl x=>Je l (kR x)) [] (a++b)↔_;rw[J,List.map_append,X23];simp only[Xbf,false_or]
def pC {ρ:Type}{l:O fv}{p:fv}(hs:Jq l)(hl:l.length<=100000)(K:O fv->C ρ) : AC (τ:=(O fv)) (λk7=>AC (τ:=Int) (λk8=>Ai (σ:=Int) (λJ H=>AC (τ:=I) (λP=>if (decide (H<(l.length:Int))) then Xd (iX l H) λV=>Xd (BP V p) λY=>P (cond true (decide (Y<0)) false) else P false ) λZ=>if Z then J (AQ (H+1)) else k8 H ) rp 0 ) λF=>AC (τ:=I) (λQ=>if (F==(l.length:Int)) then Q true else Xd (iX l F) λa6=>Q (cond false true (!(fv.rO a6 p))) ) λa7=>AC (τ:=(O fv)) (λU=>if a7 then Xd (sR (0<=F/\F<=(l.length:Int)/\(l.length:Int)<=(l.length:Int))) λ_=>Xd (gE (α:=fv) 32 [] (Xaq (Xi (l.length:Int)-Xi F) (Xat (Xi F) l))) λ_=>Xd (part l 0 F) λa8=>Xd (gE (α:=fv) 32 a8 ([p]:O fv)) λaa=>Xd (gE (α:=fv) 32 aa (Xaq (Xi (l.length:Int)-Xi F) (Xat (Xi F) l))) λab=>U ab else U l ) λae=>k7 ae ) K=K (Je l p):=by
 rw[AB];rcases split Ap hs p with ⟨l1,x,l2,rfl,e,M⟩|⟨l1,l2,rfl,M⟩
 ·have e':x=p:=e;subst e';have a1 :∀q∈l1,Ab q x<0:=M.1;rw[PG (l2:=x::l2) a1 (λy t hy=>by cases hy;have:Ab x x=0:=Ap.eq.2 rfl;omega) (by omega),AB,Xj (by simp;omega),F3,AA,(fv.rb x x).2 rfl];show AC _ _=_;rw[AB];show (if false=true then _ else _)=_;rw[Xj (by simp),US M]
 have a1 :∀q∈l1,Ab q p<0:=M.1;have a2 :∀q∈l2,0<Ab q p:=M.2;rw[PG a1 (λy t hy=>by have:=a2 y (by rw[hy];simp);omega) (by omega),AB,UE M];have hr:=gR (p:=p) (l1:=l1) (l2:=l2) (by omega) K;cases l2 with
 | nil=>rw[Xy (by simp)];show AC _ _=_;rw[AB,Xy rfl];exact hr
 | cons y t=>
  rw[Xj (by simp;omega),F3,AA];have:fv.rO y p=false:=by
   cases hq:fv.rO y p with
   | false=>rfl
   | true=>have:=(fv.rb y p).1 hq;have h3:=a2 y (by simp);rw[this,Ap.eq.2 rfl] at h3;omega
  rw[this];show AC _ _=_;rw[AB];show (if true=true then _ else _)=_;rw[Xy rfl];exact hr
def nW {ρ:Type}{next:O fv->C ρ}{body:(O fv->C ρ)->gD->Nat->O fv->C ρ}{t:O gD}{l:O fv}(F:iH t.length l) (H :∀next x j l m,x∈t->iH (m+1) l->body next x j l=next (xx l x)):AI next body t 0 l=next (t.foldl xx l):=by refine JI xx iH t 0 l ?_ H F;intro x _ m l h;exact⟨PR h.1,by have:=QB (p:=x.fv) h.1;have:=h.2;unfold xx;omega⟩
def fi {a b:O gD}(h:a.length+b.length<=60000):Fe a b=some (jH a b):=by
 unfold Fe;rw[AD (by decide) (by simp;omega),AA,AD (by decide) (by omega),AA,AB];refine (nW ⟨Xbq,by simp;omega⟩ ?_).trans rfl;intro next x j l m _ h
 exact pC (p:=x.fv) h.1 (by have:=h.2;omega) next
def fR (l:O gD)(p:fv):gD×I:=match Bi kR l p with
 | some r=>(r,true)
 | none=>(uN,false)
def Xs (l:O gD)(p:fv):EK l p=some (fR l p):=by
 unfold EK;rw[AB];have go :∀(t:O gD) (i:Nat),AI (σ:=Unit) (λ_=>some (uN,false)) (λF H M _=>if (fv.rO H.fv p)=true then some (H,true) else F ()) t i ()=some (fR t p):=by
  intro t;induction t with
  | nil=>intro i;rfl
  | cons x t J=>
   intro i;rw[Be];by_cases e:x.fv=p
   ·rw[(fv.rb _ _).2 e,Xy rfl];unfold fR;rw[BE (key:=kR) e]
   have:fv.rO x.fv p=false:=by
    cases K:fv.rO x.fv p with
    | false=>rfl
    | true=>exact absurd ((fv.rb _ _).1 K) e
   rw[this,Xj (by decide)];refine (J (i+1)).trans ?_;unfold fR;rw[BD (key:=kR) e]
 exact go l 0
def uA (to:Int)(c:fv×C gD):rG:=match c.2 with
 | some r=>⟨to,c.1,true,r⟩
 | none=>⟨to,c.1,false,uN⟩
def P5 (to:Int)(a b:O gD)(p:fv):O rG:=((Da kR Dl a b p).map (uA to)).toList
def NK {r:gD}(h:tC r.gH):Az [r]=some [r]:=by unfold Az;rw[AB,Be,Lx h,AA,AD (by decide) (by simp),AA];rfl
def nA {ρ:Type}{to:Int}{a b:O gD}{p:fv}(hb :∀r∈b,tC r.gH){v:O rG}(hv:v.length<=100000)(K:O rG->C ρ) : AC (τ:=(O rG)) (λk7=>Xd (EK a p) λ(v8,v9)=>Xd (EK b p) λ(v10,v11)=>AC (τ:=I) (λJ=>if (v9==v11) then Xd (Aw v8 v10) λP=>J (cond true P false) else J false ) λQ=>if Q then k7 v else AC (τ:=rG) (λM=>if v11 then Xd (Az ([v10]:O gD)) λU=>Xd (iX U 0) λV=>M (⟨to,p,v11,V⟩:rG) else M (⟨to,p,v11,(⟨(⟨(⟨false,(0:j),(0:j)⟩:Addr),0⟩:fv),0,(⟨0,[],(⟨false,(0:j),(0:j)⟩:Addr),0,0,0,[],[],[]⟩:gH)⟩:gD)⟩:rG) ) λY=>Xd (gE (α:=rG) 240 v ([Y]:O rG)) λZ=>k7 Z ) K=K (v++P5 to a b p):=by
 rw[AB,Xs,AA];unfold P5 Da;have F :∀c:rG,gE (α:=rG) 240 v [c]=some (v++[c]):=λc=>AD (by decide) (by simp;omega);have fn :∀l:O gD,Bi kR l p=none->fR l p=(uN,false):=λl h=>by unfold fR;rw[h]
 have fs :∀(l:O gD) (x:gD),Bi kR l p=some x->fR l p=(x,true):=λl x h=>by unfold fR;rw[h]
 cases hx:Bi kR a p with
 | none=>
  rw[fn a hx];dsimp only;rw[Xs,AA];cases H:Bi kR b p with
  | none=>rw[fn b H];dsimp only;rw[AB,Xy (by rfl),Ry,AA,(SJ uN uN).2 rfl];show (if true=true then _ else _)=_;rw[Xy rfl];simp
  | some y=>have hs:=hb y (Gl H).1;rw[fs b y H];dsimp only;rw[AB,Xj (by decide)];show (if false=true then _ else _)=_;rw[Xj (by decide),AB,Xy rfl,NK hs,AA,EW,AA];dsimp only;rw[F,AA];rfl
 | some x=>
  rw[fs a x hx];dsimp only;rw[Xs,AA];cases H:Bi kR b p with
  | none=>rw[fn b H];dsimp only;rw[AB,Xj (by decide)];show (if false=true then _ else _)=_;rw[Xj (by decide),AB,Xj (by decide)];dsimp only;rw[F,AA];rfl
  | some y=>
   have hs:=hb y (Gl H).1;rw[fs b y H];dsimp only;rw[AB,Xy (by rfl),Ry,AA];cases hq:Dl x y
   ·show (if false=true then _ else _)=_;rw[Xj (by decide),AB,Xy rfl,NK hs,AA,EW,AA];dsimp only;rw[F,AA];rfl
   show (if true=true then _ else _)=_;rw[Xy rfl];simp
def xI (to:Int)(a b:O gD)(v:O rG)(p:fv):O rG:=v++P5 to a b p
def iC (m:Nat)(v:O rG):Prop:=v.length+m<=90000
def Zc (to:Int)(a b:O gD)(p:fv):(P5 to a b p).length<=1:=by unfold P5;cases Da kR Dl a b p<;>simp
def pO {ρ:Type}{to:Int}{a b:O gD}{next:O rG->C ρ}{body:(O rG->C ρ)->fv->Nat->O rG->C ρ}{t:O fv}{l:O rG}(F:iC t.length l) (H :∀next x j l m,x∈t->iC (m+1) l->body next x j l=next (xI to a b l x)):AI next body t 0 l=next (t.foldl (xI to a b) l):=by refine JI (xI to a b) iC t 0 l ?_ H F;intro x _ m l h;have:=Zc to a b x;have J:l.length+(m+1)<=90000:=h;show (l++P5 to a b x).length+m<=90000;rw[X11];omega
def lN (to:Int)(a b:O gD) :∀(t:O fv) (v:O rG),t.foldl (xI to a b) v=v++(t.filterMap (Da kR Dl a b)).map (uA to)
 | [],v=>by simp
 | p::t,v=>by rw[Xai,lN to a b t];unfold xI P5;rw[Xbc];cases Da kR Dl a b p<;>simp
def XT {to:Int}{a b:O gD}(F:si kR Ab a)(H:si kR Ab b)(J:a.length+b.length<=60000)(K :∀r∈b,tC r.gH):EU to a b=some ((CX kR Ab Dl a b).map (uA to)):=by
 obtain⟨M,Q,P⟩:=YG a b;unfold EU;rw[fi J,AA,AB];refine (pO (to:=to) (a:=a) (b:=b) (by show [].length+_<=90000;simp;omega) ?_).trans ?_
 ·intro next x j v m _ h
  exact nA (p:=x) K (by have U:v.length+(m+1)<=90000:=h;omega) next
 rw[lN,Xax,fU Ap Dl F H M P]
def Ta (p:r5)(n:Int):Int:=match p.sr.find? λx=>x.r4==n with
 | some x=>x.Value
 | none=>0
def O6 (p:r5)(n:Int):Gj p n=some (Ta p n):=by
 unfold Gj Ta;rw[AB]
 have go :∀(t:O sr) (i:Nat),AI (σ:=Unit) (λ_=>some (0:Int)) (λF H K _=>if (H.r4==n)=true then some H.Value else F ()) t i ()=some (match t.find? λx=>x.r4==n with
   | some x=>x.Value
   | none=>0):=by
  intro t;induction t with
  | nil=>intro i;rfl
  | cons x t J=>
   intro i;rw[Be];cases e:x.r4==n
   ·rw[List.find?_cons_of_neg (by simpa using e),Xj (by decide)];exact J (i+1)
   rw[List.find?_cons_of_pos (by simpa using e)];rfl
 exact go p.sr 0
def ey (a:gH):Int:=if a.gS=-1 then 3 else a.gS
def eC (a:gH):Int:=if a.sd=-1 then 0 else a.sd
def jf (p:r5)(r:gD):O Int:=[-(Ta p r.rT),S5 r.gH.Path,ey r.gH,eC r.gH,r.rT]
def cmpL:O Int->O Int->Int->Int×Int
 | a::s,b::t,k=>if a<b then (-1,k+1) else if b<a then (1,k+1) else cmpL s t (k+1)
 | _,_,_=>(0,0)
def Ug (p:r5):Prop:=∀n,-1000<=Ta p n/\Ta p n<=1000
def lH {p:r5}(hp:Ug p)(r:gD):HE p r=some ⟨-(Ta p r.rT),S5 r.gH.Path,ey r.gH,eC r.gH,r.rT⟩:=by
 unfold HE ey eC;have J:=hp r.rT;have e:AQ (0-Ta p r.rT)=-(Ta p r.rT):=by rw[AN (by omega)];omega
 rw[AB];by_cases H:r.gH.gS=-1
 ·rw[Xy (by simpa using H),Xy H];show AC _ _=_;rw[AB];by_cases F:r.gH.sd=-1
  ·rw[Xy (by simpa using F),Xy F];dsimp only;rw[O6,AA,Cf,AA,e]
  rw[Xj (by simpa using F),Xj F];dsimp only;rw[O6,AA,Cf,AA,e]
 rw[Xj (by simpa using H),Xj H];show AC _ _=_;rw[AB];by_cases F:r.gH.sd=-1
 ·rw[Xy (by simpa using F),Xy F];dsimp only;rw[O6,AA,Cf,AA,e]
 rw[Xj (by simpa using F),Xj F];dsimp only;rw[O6,AA,Cf,AA,e]
def Uu {l:O Int}{i:Nat}(h:i<l.length):l.drop i=l[i]::l.drop (i+1):=by rw[Xbb h]
def dX {xs ys:O Int}(Z:xs.length=5)(hy:ys.length=5) : Ai (σ:=Int) (λH F=>if (decide (F<5)) then Xd (iX xs F) λP=>Xd (iX ys F) λQ=>if (decide (P<Q)) then some ((-1),(AQ (F+1))) else Xd (iX xs F) λU=>Xd (iX ys F) λV=>if (decide (U>V)) then some (1,(AQ (F+1))) else H (AQ (F+1)) else some (0,0) ) rp 0=some (cmpL xs ys 0):=by
 refine (Cm (λv:Int=>0<=v/\v<=5) (λv=>(5-v).toNat) (λv=>some (cmpL (xs.drop v.toNat) (ys.drop v.toNat) v)) ?_ rp 0 ⟨by omega,by omega⟩ (BK (by omega))).trans (by simp);intro next v hv Y
 obtain⟨v,rfl⟩ :∃n:Nat,v=(n:Int):=⟨v.toNat,by omega⟩;rw[Xa7];by_cases h:v<5
 ·have ex:v<xs.length:=by omega
  have M:v<ys.length:=by omega
  rw[Xy (by simp;omega),As ex,AA,As M,AA,Uu ex,Uu M,AN (by omega)];unfold cmpL;by_cases J:xs[v]<ys[v]
  ·rw[Xy (by simpa using J),Xy J]
  rw[Xj (by simpa using J),Xj J,AA,AA];by_cases K:ys[v]<xs[v]
  ·rw[Xy (by simpa using K),Xy K]
  rw[Xj (by simpa using K),Xj K,Y _ ⟨by omega,by omega⟩ (by omega)];have e:((v:Int)+1).toNat=v+1:=by omega
  rw[e]
 rw[Xj (by simp;omega),List.drop_eq_nil_of_le (by omega),List.drop_eq_nil_of_le (by omega)];rfl
def kj (p:r5)(a b:gD):Int×Int:=cmpL (jf p a) (jf p b) 0
def Z5 {p:r5}(hp:Ug p)(a b:gD):Ek p a b=some (kj p a b):=by unfold Ek kj;rw[lH hp,AA,lH hp,AA,AB];exact dX (xs:=jf p a) (ys:=jf p b) rfl rfl
def OW (p:r5)(l:O gD):O gD->Nat->Nat->Nat
 | [],_,k=>k
 | x::t,i,k=>OW p l t (i+1) (if (kj p x (l.getD k uN)).1<0 then i else k)
def Vl {p:r5}{l:O gD} :∀(t:O gD) (i k:Nat),i+t.length<=l.length->k<l.length->OW p l t i k<l.length
 | [],_,_,_,h=>h
 | x::t,i,k,h,F=>by
  unfold OW;refine Vl t (i+1) _ (by simp at h;omega) ?_;split
  ·simp at h;omega
  exact F
def fy (p:r5)(l:O gD):Nat:=OW p l l 0 0
def VM {p:r5}{l:O gD}(h:l≠[]):fy p l<l.length:=Vl l 0 0 (by omega) (Xc7.2 h)
def mB {p:r5}(hp:Ug p){l:O gD}(U:l.length<=1000000):Hl p l=some ((fy p l:Int),decide ((l.length:Int)>0)):=by
 unfold Hl;rw[AB];refine (O3 (λt i (s:Int)=>i+t.length=l.length/\(t≠[]->0<l.length)/\∃k:Nat,s=(k:Int)/\(k<l.length\/t=[])) (λt i s=>some ((OW p l t i s.toNat:Int),decide ((l.length:Int)>0))) ?_ ?_ l 0 0 ⟨by omega,λh=>Xc7.2 h,0,rfl,?_⟩).trans ?_
 ·rintro i s ⟨_,_,k,rfl,_⟩;rfl
 ·rintro next x t i s ⟨J,V,k,rfl,K⟩ M
  have F:k<l.length:=K.resolve_right (by simp);rw[As F,AA,Z5 hp,AA];dsimp only;rw[HK];have e:l.getD k uN=l[k]:=by simp[F]
  have P:i<l.length:=by simp at J;omega
  have step :∀m:Nat,m<l.length->next (m:Int)=some ((OW p l t (i+1) m:Int),decide ((l.length:Int)>0)):=λm Q=>
   M (m:Int) ⟨by simp at J;omega,λ_=>by omega,m,rfl,.inl Q⟩
  show _=some ((OW p l (x::t) i k:Int),_);unfold OW;rw[e];by_cases H:(kj p x l[k]).1<0
  ·rw[Xy (by simpa using H),Xy H,step i P]
  rw[Xj (by simpa using H),Xj H,step k F]
 ·cases l with
  | nil=>exact .inr rfl
  | cons x t=>exact .inl (by simp)
 rfl
def uD (s:re)(n:Int):C Nat:=s.fI.findIdx? λx=>x.r4==n
def xD (s:re)(n:Int):Int:=match uD s n with
 | some i=>(i:Int)
 | none=>-1
def lc (s:re)(n:Int):Ht s n=some (xD s n):=by
 unfold Ht xD uD;rw[AB]
 have go :∀(t:O r5) (i:Nat),AI (σ:=Unit) (λ_=>some (-1:Int)) (λF H J _=>if (H.r4==n)=true then some (J:Int) else F ()) t i ()=some (match t.findIdx? λx=>x.r4==n with
   | some k=>((i+k:Nat):Int)
   | none=>-1):=by
  intro t;induction t with
  | nil=>intro i;rfl
  | cons x t K=>
   intro i;rw[Be,List.findIdx?_cons];cases e:x.r4==n
   ·rw[Xj (by decide)];refine (K (i+1)).trans ?_;cases t.findIdx? λx=>x.r4==n with
    | none=>rfl
    | some k=>
     have:i+1+k=i+(k+1):=by omega
     simp[this]
   simp
 refine (go s.fI 0).trans ?_;cases s.fI.findIdx? λx=>x.r4==n<;>simp
def zE:gD×Int×Int:=(uN,0,1)
def Lc (own:Int)(r:gD)(p:r5):gD×Int×Int:=(C9 own r p).getD zE
def Jb (own:Int)(q:r5)(p:fv)(b:pk):O gD:=
 if (Fz b p).2=true then (if ((Lc own (Fz b p).1 q).2.2==0&&(Lc own (Fz b p).1 q).2.1==0)=true then [(Lc own (Fz b p).1 q).1] else []) else []
def Ho (s:re)(n:Int)(p:fv):O gD:=match uD s n with
 | none=>[]
 | some i=>if (s.o3.getD i ⟨⟨0,Xaj,0,0,[]⟩,false,[],0⟩).Up=true then s.o3.flatMap (Jb s.mu.sK (s.fI.getD i ⟨0,false,false,false,0,[],[]⟩) p) else []
def ge (s:re):Prop:=∀q∈s.fI,∀b∈s.o3,∀p,(Fz b p).2=true->C9 s.mu.sK (Fz b p).1 q=some (Lc s.mu.sK (Fz b p).1 q)
def Sj (own:Int)(q:r5)(p:fv)(b:pk):(Jb own q p b).length<=1:=by
 unfold Jb;split
 ·split<;>simp
 simp
def wV (own:Int)(q:r5)(p:fv)(v:O gD)(b:pk):O gD:=v++Jb own q p b
def iK (m:Nat)(v:O gD):Prop:=v.length+m<=1000
def oD {ρ:Type}{own:Int}{q:r5}{p:fv}{next:O gD->C ρ}{body:(O gD->C ρ)->pk->Nat->O gD->C ρ}{t:O pk}{l:O gD}(F:iK t.length l) (H :∀next x j l m,x∈t->iK (m+1) l->body next x j l=next (wV own q p l x)):AI next body t 0 l=next (t.foldl (wV own q p) l):=by refine JI (wV own q p) iK t 0 l ?_ H F;intro x _ m l h;have:=Sj own q p x;have J:l.length+(m+1)<=1000:=h;show (l++Jb own q p x).length+m<=1000;rw[X11];omega
def kw (own:Int)(q:r5)(p:fv) :∀(t:O pk) (v:O gD),t.foldl (wV own q p) v=v++t.flatMap (Jb own q p)
 | [],v=>by simp
 | b::t,v=>by rw[Xai,kw own q p t];unfold wV;rw[Xac,Xau]
def im (b:pk)(p:fv):Db b p=some (Fz b p):=aP b p
def TU {s:re}{n:Int}{p:fv}(V:s.o3.length=s.fI.length)(Y:s.o3.length<=64)(M:ge s):DR s n p=some (Ho s n p):=by
 unfold DR Ho;rw[lc,AA];unfold xD;cases K:uD s n with
 | none=>dsimp only;rw[AB,Xy (by decide)];rfl
 | some i=>
  dsimp only;have F:i<s.fI.length:=by unfold uD at K;obtain⟨h,_⟩:=List.findIdx?_eq_some_iff_getElem.1 K;exact h
  have H:i<s.o3.length:=by omega
  rw[AB,Xj (by simp),As H,AA,Wq,X15 H,Xao,Wq,X15 F,Xao];cases hu:s.o3[i].Up
  ·rfl
  show (if false=true then _ else _)=_;rw[Xj (by decide),Xy rfl,AB];refine (oD (own:=s.mu.sK) (q:=s.fI[i]) (p:=p) (by show [].length+_<=1000;simp;omega) ?_).trans ?_
  ·intro next b j v m P Q
   have U:v.length+(m+1)<=1000:=Q;rw[AB,im,AA];show (match Fz b p with|(v11,v12)=>_)=next (v++Jb s.mu.sK s.fI[i] p b)
   have J:=M s.fI[i] (Wx F) b P p;unfold Jb;generalize Fz b p=a at J⊢;obtain⟨r,ok⟩:=a;dsimp only at J⊢;cases ok
   ·rw[Xy (by rfl),Xj (by decide),Xag]
   rw[Xj (by decide),Xy rfl,As F,AA,J rfl,AA];generalize Lc s.mu.sK r s.fI[i]=x;obtain⟨y,c,d⟩:=x;dsimp only;rw[AB];cases Z:d==0
   ·rw[Xj (by decide)];show AC _ _=_;rw[AB,Xj (by decide)];simp
   rw[Xy rfl];show AC _ _=_;rw[AB];cases hc:c==0
   ·simp
   rw[Xy (by rfl),AD (by decide) (by simp;omega),AA];simp
  show some (List.foldl (wV s.mu.sK s.fI[i] p) [] s.o3)=_;rw[kw,Xax]
end Go.AX.Q29
end
