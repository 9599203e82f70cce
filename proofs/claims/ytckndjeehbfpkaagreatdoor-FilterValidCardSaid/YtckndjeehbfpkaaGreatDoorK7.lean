/-
  Texts of one proof, packed.
-/
import Derived.Test.YtckndjeehbfpkaaGreatDoorK5
import Derived.Test.YtckndjeehbfpkaaGreatDoorK6
import Derived.KernelRfl
set_option linter.all false
set_option maxRecDepth 100000
set_option maxHeartbeats 4000000
open List renaming length_map→X10,length_append→X11,length_cons→X12,length_nil→X13,mem_singleton→X14,getElem?_eq_getElem→X15,getElem?_eq_some_iff→X16,length_take→X18,mem_cons_of_mem→X19,mem_append→X23
open Option.some renaming injEq→X24,inj→X25
open Prod.mk renaming injEq→X26
open Bool renaming and_eq_true→X27,eq_iff_iff→X28
section
namespace Go.AX.Q24
open Go Go.AX
theorem By {v n:Int}(hn:1<=n/\n<=1000000000):Ok (C0 v n) fun r=>0<=r/\r<n:=by
 unfold C0
 have h1:=Int.tmod_lt_of_pos v (show 0<n by omega)
 have h2:-n<Int.tmod v n:=by
  have:=Int.lt_tmod_of_pos v (show 0<n by omega)
  exact this
 refine .bind (.chk (by omega)) fun _ _=>.join (fun r=>0<=r/\r<n) (fun k hk=>.ite (fun hc=>hk _ ?_) fun hc=>hk _ ?_) fun r hr=>.ret hr
 ·simp only[decide_eq_true_eq] at hc
  rw[A3 (by omega)]
  omega
 simp only[decide_eq_true_eq] at hc
 omega
theorem Ac {d:JAL}{n:Int}(hd:Dk d)(hn:1<=n/\n<=1000000000):Ok (AN d n) fun r=>0<=r.1/\r.1<n/\Dk r.2:=by
 obtain⟨h1,h2⟩:=hd
 unfold AN
 refine .ite (fun _=>.ret ⟨by simp only;omega,by simp only;omega,h1,h2⟩) fun hc=>?_
 simp only[decide_eq_true_eq] at hc
 have e1:A0 (d.At+1)=d.At+1:=A3 (by omega)
 have e2:A0 (d.At+1-1)=d.At:=by rw[A3 (by omega)];omega
 rw[e1,e2]
 exact .bind (.geti (by omega)) fun v _=>.bind (By hn) fun r hr=>.ret ⟨hr.1,hr.2,by simp only;omega,h2⟩
theorem MI {k:Int}(h:0<=k/\k<8):Ok (F8 k) Blk:=by
 have:k=0\/k=1\/k=2\/k=3\/k=4\/k=5\/k=6\/k=7:=by omega
 rcases this with rfl | rfl | rfl | rfl | rfl | rfl | rfl | rfl
 ·exact⟨_,rfl,by kernel_rfl,.inl ⟨rfl,rfl⟩⟩
 ·exact⟨_,rfl,by kernel_rfl,.inl ⟨rfl,rfl⟩⟩
 ·exact⟨_,rfl,by kernel_rfl,.inl ⟨rfl,rfl⟩⟩
 ·exact⟨_,rfl,by kernel_rfl,.inl ⟨rfl,rfl⟩⟩
 ·exact⟨_,rfl,by kernel_rfl,.inl ⟨rfl,rfl⟩⟩
 ·exact⟨_,rfl,by kernel_rfl,.inl ⟨rfl,rfl⟩⟩
 ·exact⟨_,rfl,by kernel_rfl,.inr ⟨rfl,rfl⟩⟩
 exact⟨_,rfl,by kernel_rfl,.inr ⟨rfl,rfl⟩⟩
def P5 (o:JAB):Prop:=Blk o.JAA/\(o.Max=24/\o.JAA.Addr.V6=false\/o.Max=64/\o.JAA.Addr.V6=true)/\0<=o.ASN/\o.ASN<=301
structure MF (f:JAI):Prop where
 own:f.Own=99
 lans:f.LANs=[⟨⟨false,0,3221225984⟩,24⟩]
 mins:f.Min4=8/\f.Max4=24/\f.Min6=19/\f.Max6=64/\f.Hole4=25/\f.Hole6=65
 hops:2<=f.Hops/\f.Hops<=8
 priv:f.Private=[⟨64512,65534⟩]
 free:f.Free.length<=2/\∀x∈f.Free,1<=x/\x<=1000
 bog:f.Bogons.length<=1/\∀p∈f.Bogons,Blk p
 sets:f.JAD.Sets=[⟨dj,[101,102,103,104,105,201,202,203,301],[]⟩,⟨eA,[201],[]⟩]
 objs:f.JAD.Objects.length<=72/\∀o∈f.JAD.Objects,P5 o/\1<=o.ASN
 orig:f.Origins.length<=8/\∀o∈f.Origins,P5 o
theorem FU {d:JAL}(hd:Dk d):Ok (Bh d) fun r=>MF r.1/\Dk r.2:=by
 unfold Bh
 refine .bind (Ac hd (by omega)) ?_
 rintro⟨a,d⟩ ⟨a1,a2,hd⟩
 simp only at a1 a2 hd
 refine .bind (.part ⟨by omega,by omega,by simp;omega⟩) fun fr hfr=>.bind (Ac hd (by omega)) ?_
 rintro⟨b,d⟩ ⟨b1,b2,hd⟩
 simp only at hd
 refine .join (fun x:JAL×List JAA=>Dk x.1/\x.2.length<=1/\∀p∈x.2,Blk p) (fun k hk=>.ite (fun _=>.bind (Ac hd (by omega)) ?_) fun _=>hk _ ⟨hd,by simp,by simp⟩) ?_
 ·rintro⟨c,d⟩ ⟨c1,c2,hd⟩
  exact .bind (MI ⟨c1,c2⟩) fun p hp=>hk _ ⟨hd,by simp,by simpa using hp⟩
 rintro⟨d,bg⟩ ⟨hd,hb1,hb2⟩
 simp only at hd hb1 hb2
 refine .bind (Ac hd (by omega)) ?_
 rintro⟨e,d⟩ ⟨_,_,hd⟩
 refine .join (fun x:JAL×Int=>Dk x.1/\2<=x.2/\x.2<=8) (fun k hk=>.ite (fun _=>.bind (Ac hd (by omega)) ?_) fun _=>hk _ ⟨hd,by simp,by simp⟩) ?_
 ·rintro⟨c,d⟩ ⟨c1,c2,hd⟩
  simp only at c1 c2
  exact hk _ ⟨hd,by simp only;rw[A3 (by omega)];omega,by simp only;rw[A3 (by omega)];omega⟩
 rintro⟨d,hp⟩ ⟨hd,hh1,hh2⟩
 refine .bind (Ac hd (by omega)) ?_
 rintro⟨op,d⟩ ⟨_,_,hd⟩
 refine .join (fun x:JAL×List JAB×List JAB=>Dk x.1/\(x.2.1.length<=72/\∀o∈x.2.1,P5 o/\1<=o.ASN)/\x.2.2.length<=8/\∀o∈x.2.2,P5 o) (fun k hk=>?_) ?_
 ·refine .whileI (fun s:Int×JAL×List JAB×List JAB=>0<=s.1/\s.1<=8/\Dk s.2.1/\(s.2.2.1.length<=9*s.1.toNat/\∀o∈s.2.2.1,P5 o/\1<=o.ASN)/\s.2.2.2.length<=s.1.toNat/\∀o∈s.2.2.2,P5 o) (fun s=>(8-s.1).toNat)
   ⟨by simp,by simp,hd,⟨by simp,by simp⟩,by simp,by simp⟩ (EJ (by simp only;omega)) ?_
  rintro next ⟨i,d,os,ors⟩ ⟨i1,i2,hd,⟨o1,o2⟩,r1,r2⟩ hnx
  simp only at i1 i2 hd o1 o2 r1 r2
  refine .ite (fun hc=>?_) fun _=>hk _ ⟨hd,⟨by simp only;omega,o2⟩,by simp only;omega,r2⟩
  simp only[decide_eq_true_eq] at hc
  refine .join (fun x:JAL×List JAB×List JAB=>Dk x.1/\(x.2.1.length<=9*i.toNat+9/\∀o∈x.2.1,P5 o/\1<=o.ASN)/\x.2.2.length<=i.toNat+1/\∀o∈x.2.2,P5 o) (fun k2 hk2=>?_) ?_
  ·refine .bind (MI ⟨i1,hc⟩) fun p hp=>?_
   refine .join (fun m:Int=>m=24/\p.Addr.V6=false\/m=64/\p.Addr.V6=true) (fun k3 hk3=>.ite (fun h=>hk3 _ (.inr ⟨rfl,h⟩)) fun h=>hk3 _ (.inl ⟨rfl,by simpa using h⟩)) fun m hm=>?_
   refine .join (fun x:JAL×List JAB=>Dk x.1/\x.2.length<=9*i.toNat+9/\∀o∈x.2,P5 o/\1<=o.ASN) (fun k3 hk3=>?_) ?_
   ·refine .forI (fun j (x:JAL×List JAB)=>Dk x.1/\x.2.length<=9*i.toNat+j/\∀o∈x.2,P5 o/\1<=o.ASN) ⟨hd,by simpa using o1,o2⟩ (fun x hx=>hk3 _ hx) ?_
    rintro next2 n j ⟨d,os⟩ hj hn ⟨hd,q1,q2⟩ hnx2
    simp only at hd q1 q2
    have hn':1<=n/\n<=301:=by
     simp only[List.mem_cons,List.not_mem_nil,or_false] at hn
     omega
    refine .join (fun x:Bool×JAL=>Dk x.2) (fun k4 hk4=>.ite (fun _=>hk4 _ hd) fun _=>.bind (Ac hd (by omega)) ?_) ?_
    ·rintro⟨y,d⟩ ⟨_,_,hd⟩
     exact hk4 _ hd
    rintro⟨c,d⟩ hd
    simp only at hd
    refine .join (fun os:List JAB=>os.length<=9*i.toNat+(j+1)/\∀o∈os,P5 o/\1<=o.ASN) (fun k4 hk4=>.ite (fun _=>.bind (.apnd (by decide) (by simp at hj ⊢;omega)) fun w hw=>hk4 _ ⟨by rw[hw];simp;omega,fun o ho=>?_⟩) fun _=>hk4 _ ⟨by omega,q2⟩) fun os hos=>hnx2 _ ⟨hd,hos.1,hos.2⟩
    simp only[hw,X23,X14] at ho
    rcases ho with ho | rfl
    ·exact q2 o ho
    exact⟨⟨hp,hm,by simp only;omega,by simp only;omega⟩,hn'.1⟩
   rintro⟨d,os⟩ ⟨hd,q1,q2⟩
   simp only at hd q1 q2
   refine .bind (Ac hd (by omega)) ?_
   rintro⟨y,d⟩ ⟨_,_,hd⟩
   simp only at hd
   refine .join (fun x:JAL×List JAB=>Dk x.1/\x.2.length<=i.toNat+1/\∀o∈x.2,P5 o) (fun k4 hk4=>.ite (fun _=>.bind (Ac hd (by omega)) ?_) fun _=>hk4 _ ⟨hd,by simp only;omega,r2⟩) ?_
   ·rintro⟨z,d⟩ ⟨z1,z2,hd⟩
    simp only at z1 z2 hd
    refine .bind (.geti (by simp;omega)) fun n hn=>.bind (.apnd (by decide) (by simp;omega)) fun w hw=>hk4 _ ⟨hd,by rw[hw];simp;omega,fun o ho=>?_⟩
    have hn':0<=n/\n<=301:=by
     have:=hn.1
     simp only[List.mem_cons,List.not_mem_nil,or_false] at this
     omega
    simp only[hw,X23,X14] at ho
    rcases ho with ho | rfl
    ·exact r2 o ho
    exact⟨hp,hm,hn'.1,hn'.2⟩
   rintro⟨d,ors⟩ ⟨hd,s1,s2⟩
   exact hk2 _ ⟨hd,⟨q1,q2⟩,s1,s2⟩
  rintro⟨d,os,ors⟩ ⟨hd,⟨q1,q2⟩,s1,s2⟩
  simp only at hd q1 q2 s1 s2
  rw[A3 (by omega)]
  exact hnx _ ⟨by simp only;omega,by simp only;omega,hd,⟨by simp only;omega,q2⟩,by simp only;omega,s2⟩ (by simp only;omega)
 rintro⟨d,os,ors⟩ ⟨hd,⟨q1,q2⟩,s1,s2⟩
 refine .ret ⟨⟨rfl,rfl,⟨rfl,rfl,rfl,rfl,rfl,rfl⟩,⟨hh1,hh2⟩,rfl,?_,⟨hb1,hb2⟩,rfl,⟨q1,q2⟩,⟨s1,s2⟩⟩,hd⟩
 have hfs :∀x∈fr,x∈([701,202]:List Int):=fun x hx=>by rw[hfr.1] at hx;exact List.drop_subset _ _ (List.mem_of_mem_take hx)
 refine⟨by have:=hfr.2;simp only;omega,fun x hx=>?_⟩
 have:=hfs x hx
 simp only[List.mem_cons,List.not_mem_nil,or_false] at this
 omega
instance (n:Int) (b:Bool):Tt (Fg n b):=by unfold Fg;exact Tt.auto
theorem Xc {n:Int}(h:101<=n/\n<=105)(b:Bool):Ok (Fg n b) fun a=>a.ok=true:=by
 have:n=101\/n=102\/n=103\/n=104\/n=105:=by omega
 rcases this with rfl | rfl | rfl | rfl | rfl<;>cases b<;>exact⟨_,rfl,by show Addr.ok _=true;kernel_rfl⟩
theorem Rq {d:JAL}(hd:Dk d):Ok (CV d) fun r=>r.1.length<=8/\Dk r.2:=by
 unfold CV
 refine .bind (Ac hd (by omega)) ?_
 rintro⟨a,d⟩ ⟨_,_,hd⟩
 dsimp only at hd ⊢
 refine .join (fun x:JAL×List JAC=>Dk x.1/\x.2.length<=8) (fun k hk=>?_) (fun ⟨d,l⟩ ⟨hd,hl⟩=>.ret ⟨hl,hd⟩)
 refine .forI (fun i (x:JAL×List JAC)=>Dk x.1/\x.2.length<=i) ⟨hd,by simp⟩ (fun x hx=>hk _ ⟨hx.1,by simpa using hx.2⟩) ?_
 rintro next x i ⟨d,l⟩ hi _ ⟨hd,hl⟩ hnx
 have hi':i<8:=by simpa using hi
 dsimp only at hd hl ⊢
 refine .join (fun x:Bool×JAL=>Dk x.2) (fun k2 hk2=>.ite (fun _=>.ite (fun _=>hk2 _ hd) fun _=>.bind (Ac hd (by omega)) ?_) fun _=>hk2 _ hd) ?_
 ·rintro⟨b,d⟩ ⟨_,_,hd⟩
  exact hk2 _ hd
 rintro⟨c,d⟩ hd
 dsimp only at hd ⊢
 refine .join (fun l:List JAC=>l.length<=i+1) (fun k3 hk3=>.ite (fun _=>.bind (.apnd (by decide) (by simp;omega)) fun w hw=>hk3 _ (by rw[hw];simp;omega)) fun _=>hk3 _ (by omega)) fun l hl=>hnx _ ⟨hd,hl⟩
theorem Yu {d:JAL}(hd:Dk d):Ok (Ez d) fun r=>r.1.length<=8/\Dk r.2:=by
 unfold Ez
 refine .bind (Ac hd (by omega)) ?_
 rintro⟨a,d⟩ ⟨_,_,hd⟩
 dsimp only at hd ⊢
 refine .join (fun x:List JAH=>x.length<=8) (fun k hk=>?_) (fun l hl=>.ret ⟨hl,hd⟩)
 refine .forI (fun i (x:List JAH)=>x.length<=i) (by simp) (fun x hx=>hk _ (by simp at hx;omega)) ?_
 intro next x i l hi _ hl hnx
 have hi':i<7:=by simpa using hi
 refine .join (fun l:List JAH=>l.length<=i+1) (fun k3 hk3=>.ite (fun _=>.bind (.apnd (by decide) (by simp;omega)) fun w hw=>hk3 _ (by rw[hw];simp;omega)) fun _=>hk3 _ (by omega)) fun l hl=>hnx _ hl
theorem VV {d:JAL}{n:Int}{b:Bool}(hd:Dk d):Ok (Du d n b) fun r=>SmA 1000 r.1/\Dk r.2:=by
 unfold Du
 rw[ZX,AA]
 dsimp only
 refine .bind (Ac hd (by omega)) ?_
 rintro⟨_,d⟩ ⟨_,_,hd⟩
 dsimp only at hd ⊢
 refine .bind (Ac hd (by omega)) ?_
 rintro⟨m,d⟩ ⟨m1,m2,hd⟩
 dsimp only at m1 m2 hd ⊢
 refine .join (fun x:JAL×List Int=>Dk x.1/\1<=x.2.length/\x.2.length<=10) (fun k hk=>?_) ?_
 ·refine .whileI (fun s:Int×JAL×List Int=>0<=s.1/\s.1<=3/\Dk s.2.1/\1<=s.2.2.length/\s.2.2.length+s.1.toNat<=10) (fun s=>s.1.toNat) ⟨m1,by dsimp only;omega,hd,by simp,by simp;omega⟩ (EJ (by dsimp only;omega)) ?_
  rintro next ⟨i,d,l⟩ ⟨i1,i2,hd,l1,l2⟩ hnx
  dsimp only at i1 i2 hd l1 l2 ⊢
  refine .ite (fun hc=>.bind (Ac hd (by omega)) ?_) fun _=>hk _ ⟨hd,l1,by dsimp only;omega⟩
  rintro⟨c,d⟩ ⟨c1,c2,hd⟩
  simp only[decide_eq_true_eq] at hc
  dsimp only at c1 c2 hd ⊢
  refine .bind (.geti (by simp;omega)) fun v _=>.bind (.apnd (by decide) (by simp;omega)) fun w hw=>?_
  rw[A3 (by omega)]
  exact hnx _ ⟨by dsimp only;omega,by dsimp only;omega,hd,by rw[hw];simp,by rw[hw];simp;omega⟩ (by dsimp only;omega)
 rintro⟨d,l⟩ ⟨hd,l1,l2⟩
 dsimp only at hd l1 l2 ⊢
 refine .bind Ok.of fun po _=>.bind (Ac hd (by omega)) ?_
 rintro⟨c,d⟩ ⟨_,_,hd⟩
 dsimp only at hd ⊢
 refine .join (fun x:JAL×Int=>Dk x.1) (fun k hk=>.ite (fun _=>.bind (Ac hd (by omega)) fun ⟨_,d⟩ ⟨_,_,hd⟩=>hk _ hd) fun _=>hk _ hd) ?_
 rintro⟨d,med⟩ hd
 dsimp only at hd ⊢
 refine .bind (Ac hd (by omega)) ?_
 rintro⟨c,d⟩ ⟨_,_,hd⟩
 dsimp only at hd ⊢
 refine .join (fun x:JAL×Int=>Dk x.1) (fun k hk=>.ite (fun _=>.bind (Ac hd (by omega)) fun ⟨_,d⟩ ⟨_,_,hd⟩=>hk _ hd) fun _=>hk _ hd) ?_
 rintro⟨d,pref⟩ hd
 dsimp only at hd ⊢
 refine .bind (Rq hd) ?_
 rintro⟨co,d⟩ ⟨hco,hd⟩
 dsimp only at hco hd ⊢
 refine .bind (Yu hd) ?_
 rintro⟨la,d⟩ ⟨hla,hd⟩
 dsimp only at hla hd ⊢
 refine .bind (Ac hd (by omega)) ?_
 rintro⟨q,d⟩ ⟨_,_,hd⟩
 dsimp only at hd ⊢
 have hl:Sh [⟨false,l⟩] []:=sh1 (by omega)
 refine .join (fun x:JAL×List JAE×Bool×UInt64×UInt64×Int×List JAJ=>Dk x.1/\Sh x.2.1 x.2.2.2.2.2.2) (fun k hk=>.ite (fun _=>.bind (Ac hd (by omega)) fun ⟨_,d⟩ ⟨_,_,hd⟩=>hk _ ⟨hd,hl⟩) fun _=>?_) fun ⟨d,p,_,_,_,_,o⟩ ⟨hd,h⟩=>.ret ⟨h.a hco hla,hd⟩
 refine .join (fun x:JAL×List JAE×Bool×UInt64×UInt64×List JAJ=>Dk x.1/\Sh x.2.1 x.2.2.2.2.2) (fun k2 hk2=>.ite (fun _=>.bind (.geti (by omega)) fun _ _=>.bind (.seti (by omega)) fun w hw=>hk2 _ ⟨hd,sh1 (by omega)⟩) fun _=>?_) fun ⟨d,p,_,_,_,o⟩ ⟨hd,h⟩=>hk _ ⟨hd,h⟩
 refine .join (fun x:JAL×List JAE×Bool×UInt64×UInt64×List JAJ=>Dk x.1/\Sh x.2.1 x.2.2.2.2.2) (fun k3 hk3=>.ite (fun _=>hk3 _ ⟨hd,⟨⟨by simp,?_⟩,by simp,by simp⟩⟩) fun _=>?_) fun ⟨d,p,_,_,_,o⟩ ⟨hd,h⟩=>hk2 _ ⟨hd,h⟩
 ·intro s hs
  simp only[List.mem_cons,List.not_mem_nil,or_false] at hs
  rcases hs with rfl | rfl
  ·dsimp only;omega
  decide
 refine .join (fun x:JAL×List JAE×Bool×UInt64×UInt64×List JAJ=>Dk x.1/\Sh x.2.1 x.2.2.2.2.2) (fun k4 hk4=>.ite (fun _=>.bind (.apnd (by decide) (by simp;omega)) fun w hw=>hk4 _ ⟨hd,sh1 (by rw[hw];simp;omega)⟩) fun _=>?_) fun ⟨d,p,_,_,_,o⟩ ⟨hd,h⟩=>hk3 _ ⟨hd,h⟩
 refine .join (fun x:JAL×List JAE×Bool×UInt64×UInt64×List JAJ=>Dk x.1/\Sh x.2.1 x.2.2.2.2.2) (fun k5 hk5=>.ite (fun _=>.bind Ok.of fun _ _=>hk5 _ ⟨hd,hl⟩) fun _=>?_) fun ⟨d,p,_,_,_,o⟩ ⟨hd,h⟩=>hk4 _ ⟨hd,h⟩
 refine .join (fun x:JAL×List JAE×List JAJ=>Dk x.1/\Sh x.2.1 x.2.2) (fun k6 hk6=>.ite (fun _=>.bind (.apnd (by decide) (by simp;omega)) fun w hw=>hk6 _ ⟨hd,sh1 (by rw[hw];simp;omega)⟩) fun _=>?_) fun ⟨d,p,o⟩ ⟨hd,h⟩=>hk5 _ ⟨hd,h⟩
 refine .join (fun x:JAL×List JAE×List JAJ=>Dk x.1/\Sh x.2.1 x.2.2) (fun k7 hk7=>.ite (fun _=>hk7 _ ⟨hd,⟨⟨by simp,by simp⟩,by simp,by simp⟩⟩) fun _=>?_) fun ⟨d,p,o⟩ ⟨hd,h⟩=>hk6 _ ⟨hd,h⟩
 refine .join (fun x:JAL×List JAJ=>Dk x.1/\x.2.length<=4/\∀u∈x.2,u.Data.length<=4) (fun k8 hk8=>.ite (fun _=>.bind (Ac hd (by omega)) fun ⟨_,d⟩ ⟨_,_,hd⟩=>hk8 _ ⟨hd,by simp,by simp⟩) fun _=>hk8 _ ⟨hd,by simp,by simp⟩) fun ⟨d,o⟩ ⟨hd,h⟩=>hk7 _ ⟨hd,hl.1,h⟩
theorem Nv {d:JAL}{n:Int}(hd:Dk d)(h:101<=n/\n<=105):Ok (B7 d n) fun r=>(r.1.ASN=n/\r.1.Set.size<=4/\(r.1.Nexts.length=2/\∀a∈r.1.Nexts,a.ok=true))/\Dk r.2:=by
 unfold B7
 refine .bind (Ac hd (by omega)) ?_
 rintro⟨a,d⟩ ⟨a1,a2,hd⟩
 dsimp only at a1 a2 hd ⊢
 refine .bind (.geti (by simp;omega)) fun nm hnm=>.bind (Ac hd (by omega)) ?_
 rintro⟨b,d⟩ ⟨b1,b2,hd⟩
 dsimp only at b1 b2 hd ⊢
 refine .bind (Ac hd (by omega)) ?_
 rintro⟨c,d⟩ ⟨c1,c2,hd⟩
 dsimp only at c1 c2 hd ⊢
 refine .bind (Xc h false) fun p hp=>.bind (Xc h true) fun q hq=>.ret ⟨⟨rfl,show nm.size<=4 from ?_,rfl,?_⟩,hd⟩
 ·have h1:=hnm.1
  simp only[List.mem_cons,List.not_mem_nil,or_false] at h1
  rcases h1 with rfl | rfl | rfl | rfl | rfl | rfl<;>decide
 intro a ha
 simp only[List.mem_cons,List.not_mem_nil,or_false] at ha
 rcases ha with rfl | rfl
 ·exact hp
 exact hq
theorem XP {p:JAA}(h:BL p=some true):L2 p:=by
 obtain⟨b,h1,h2⟩:=IN p
 rw[h] at h1
 exact h2.1 (X25 h1).symm
def Bk (p:JAA):Prop:=Blk p/\BL ⟨p.Addr,cond p.Addr.V6 64 24⟩=some true/\∀j:Int,0<=j->j<3->BL ⟨{ p.Addr with Lo:=(BF ((p.Addr.Lo.toNat:Int)+((BF j).toNat:Int))) },cond p.Addr.V6 128 32⟩=some true
theorem Zk {k:Int}(h:0<=k/\k<8):Ok (F8 k) Bk:=by
 have three :∀{Q:Int->Prop},Q 0->Q 1->Q 2->∀j:Int,0<=j->j<3->Q j:=by
  intro Q h0 h1 h2 j hj hk
  have:j=0\/j=1\/j=2:=by omega
  rcases this with rfl | rfl | rfl
  ·exact h0
  ·exact h1
  exact h2
 have:k=0\/k=1\/k=2\/k=3\/k=4\/k=5\/k=6\/k=7:=by omega
 rcases this with rfl | rfl | rfl | rfl | rfl | rfl | rfl | rfl
 ·exact⟨_,rfl,⟨by kernel_rfl,.inl ⟨rfl,rfl⟩⟩,by kernel_rfl,three (by kernel_rfl) (by kernel_rfl) (by kernel_rfl)⟩
 ·exact⟨_,rfl,⟨by kernel_rfl,.inl ⟨rfl,rfl⟩⟩,by kernel_rfl,three (by kernel_rfl) (by kernel_rfl) (by kernel_rfl)⟩
 ·exact⟨_,rfl,⟨by kernel_rfl,.inl ⟨rfl,rfl⟩⟩,by kernel_rfl,three (by kernel_rfl) (by kernel_rfl) (by kernel_rfl)⟩
 ·exact⟨_,rfl,⟨by kernel_rfl,.inl ⟨rfl,rfl⟩⟩,by kernel_rfl,three (by kernel_rfl) (by kernel_rfl) (by kernel_rfl)⟩
 ·exact⟨_,rfl,⟨by kernel_rfl,.inl ⟨rfl,rfl⟩⟩,by kernel_rfl,three (by kernel_rfl) (by kernel_rfl) (by kernel_rfl)⟩
 ·exact⟨_,rfl,⟨by kernel_rfl,.inl ⟨rfl,rfl⟩⟩,by kernel_rfl,three (by kernel_rfl) (by kernel_rfl) (by kernel_rfl)⟩
 ·exact⟨_,rfl,⟨by kernel_rfl,.inr ⟨rfl,rfl⟩⟩,by kernel_rfl,three (by kernel_rfl) (by kernel_rfl) (by kernel_rfl)⟩
 exact⟨_,rfl,⟨by kernel_rfl,.inr ⟨rfl,rfl⟩⟩,by kernel_rfl,three (by kernel_rfl) (by kernel_rfl) (by kernel_rfl)⟩
theorem LE {d:JAL}(hd:Dk d):Ok (Dc d) fun r=>L2 r.1/\Dk r.2:=by
 unfold Dc
 refine .bind (Ac hd (by omega)) ?_
 rintro⟨a,d⟩ ⟨a1,a2,hd⟩
 dsimp only at a1 a2 hd ⊢
 refine .bind (Zk ⟨a1,a2⟩) fun p hp=>.bind (Ac hd (by omega)) ?_
 rintro⟨b,d⟩ ⟨b1,b2,hd⟩
 dsimp only at b1 b2 hd ⊢
 refine .join (fun x:JAL×JAA=>Dk x.1/\L2 x.2) (fun k hk=>.ite (fun _=>.join (fun v=>v=cond p.Addr.V6 64 24) (fun k2 hk2=>.ite (fun h=>hk2 _ (by rw[h];rfl)) fun h=>hk2 _ (by rw[Bool.not_eq_true] at h;rw[h];rfl)) fun v hv=>hk _ ⟨hd,by rw[hv];exact XP hp.2.1⟩) fun _=>?_) fun ⟨d,p⟩ hd=>.ret ⟨hd.2,hd.1⟩
 refine .join (fun x:JAL×JAA=>Dk x.1/\L2 x.2) (fun k2 hk2=>.ite (fun _=>.join (fun v=>v=cond p.Addr.V6 128 32) (fun k3 hk3=>.ite (fun h=>hk3 _ (by rw[h];rfl)) fun h=>hk3 _ (by rw[Bool.not_eq_true] at h;rw[h];rfl)) fun v hv=>.bind (Ac hd (by omega)) ?_) fun _=>hk2 _ ⟨hd,hp.1.good⟩) fun ⟨d,p⟩ hd=>hk _ hd
 rintro⟨c,d⟩ ⟨c1,c2,hd⟩
 dsimp only at c1 c2
 exact hk2 _ ⟨hd,by dsimp only;rw[hv];exact XP (hp.2.2 c c1 c2)⟩
theorem cf {p:List JAE}{n:Nat}(h :∀s∈p,s.ASNs.length<=n):tot p<=n*p.length:=by
 induction p with
 | nil=>exact Nat.zero_le _
 | cons s t ih=>
  have:=h s (by simp)
  have:=ih fun x hx=>h x (X19 _ hx)
  rw[HV,X12,Nat.mul_succ];omega
structure SmS (a:JAG):Prop where
 p:a.Path.length<=1000000
 t:tot a.Path<=1000000
 c:a.Communities.length<=1000000
 l:a.JAH.length<=1000000
 o:a.Other.length<=1000000
 d :∀u∈a.Other,u.Data.length<=1000000
theorem SmS.smt {a:JAG}(h:SmS a):SmT a:=by
 have h1:=h.p
 have h2:=h.t
 have h3:=h.c
 have h4:=h.l
 have h5:=h.o
 exact⟨by omega,by omega,by omega,by omega,by omega,fun u hu=>by have:=h.d u hu;omega⟩
theorem SmA.sms {a:JAG}(h:SmA 1000 a):SmS a:=by
 have h1:=cf h.s
 have h2:=h.p
 have h3:=h.c
 have h4:=h.l
 have h5:=h.o
 exact⟨by omega,by omega,by omega,by omega,by omega,fun u hu=>by have:=h.d u hu;omega⟩
theorem SmA.smt {a:JAG}(h:SmA 1000 a):SmT a:=h.sms.smt
theorem aY {p:List JAE}(h :∀s∈p,Pe s=true):p.length<=tot p:=by
 induction p with
 | nil=>exact Nat.zero_le _
 | cons s t ih=>
  have h1:=h s (by simp)
  have h2:=ih fun x hx=>h x (X19 _ hx)
  unfold Pe at h1
  rw[X27,decide_eq_true_eq] at h1
  have:=h1.1
  rw[HV,X12];omega
theorem SmS.of {a:JAG}(h:Jn a=true):SmS a:=by
 unfold Jn at h
 simp only[X27,decide_eq_true_eq] at h
 obtain⟨ho,_,hp,_,_,_,_,hc,hl,h8⟩:=h
 unfold F4 at hp
 rw[X27,X27,List.all_eq_true,decide_eq_true_eq] at hp
 have h1:=aY hp.1.1
 have h2:=hp.2
 have h3:=(XF.1 hc).2.2
 have h4:=(W5.1 hl).2.2
 unfold LM at ho
 rw[X27,List.all_eq_true] at ho
 refine⟨by omega,by omega,by omega,by omega,by omega,fun u hu=>?_⟩
 have:=ho.1 u hu
 unfold okO at this
 simp only[X27,decide_eq_true_eq] at this
 omega
theorem LX {d:JAL}{n:Int}(hd:Dk d):Ok (Bt d n) fun r=>(L2 r.1.JAA/\SmA 1000 r.1.JAG)/\Dk r.2:=by
 unfold Bt
 refine .bind (LE hd) ?_
 rintro⟨p,d⟩ ⟨hp,hd⟩
 dsimp only at hp hd ⊢
 refine .bind (VV hd) ?_
 rintro⟨a,d⟩ ⟨h,hd⟩
 exact .ret ⟨⟨hp,h⟩,hd⟩
theorem LA:CL=some true:=by kernel_rfl
theorem aD {α ρ:Type}{l:List α}{q:α->Bool}(g:α->(Bool->Option ρ)->Option ρ){K:Bool->Option ρ}(hg :∀x∈l,∀k,g x k=k (q x)) :
  AB (τ:=Bool) (fun k1=>AB (τ:=Int) (fun k2=>AB (τ:=Unit) (fun k3=>Aa (σ:=Unit) (fun _=>k3 ()) (fun next4 x5 i6 _=>AB (τ:=Bool) (fun k7=>g x5 k7) fun v10=>if v10=true then k2 (i6:Int) else next4 ()) l 0 ()) fun _=>k2 (-1)) fun v11=>k1 (decide (v11 ≥ 0))) K=K (l.any q):=by
 simp only[AC]
 have key :∀(l:List α) (i:Nat),(∀x∈l,∀k,g x k=k (q x))->Aa (σ:=Unit) (fun _=>K (decide ((-1:Int) ≥ 0))) (fun next4 x5 i6 _=>g x5 fun v10=>if v10=true then K (decide ((i6:Int) ≥ 0)) else next4 ()) l i ()=K (l.any q):=by
  intro l
  induction l with
  | nil=>intro i _;rfl
  | cons x t ih=>
   intro i h
   show g x (fun v10=>if v10=true then K (decide ((i:Int) ≥ 0)) else Aa _ _ t (i+1) ())=_
   rw[h x (by simp),ih (i+1) fun y hy=>h y (X19 _ hy),List.any_cons]
   cases q x
   ·rfl
   rw[if_pos rfl,decide_eq_true (by omega)];rfl
 exact key l 0 hg
theorem orJ {α ρ:Type}{l:List α}{q:α->Bool}(g:α->(Bool->Option ρ)->Option ρ){K:Bool->Option ρ}(hg :∀x∈l,∀k,g x k=k (q x))(b:Bool) :
  AB (τ:=Bool) (fun k8=>Aa (σ:=Bool) (fun v9=>k8 v9) (fun next10 x11 _ v9=>AB (τ:=Bool) (fun k13=>if v9=true then k13 true else g x11 k13) fun v14=>next10 v14) l 0 b) K=K (b || l.any q):=by
 simp only[AC]
 have key :∀(l:List α) (i:Nat) (b:Bool),(∀x∈l,∀k,g x k=k (q x))->Aa (σ:=Bool) (fun v9=>K v9) (fun next10 x11 _ v9=>if v9=true then next10 true else g x11 fun v14=>next10 v14) l i b=K (b || l.any q):=by
  intro l
  induction l with
  | nil=>intro i b _;rw[List.any_nil,Bool.or_false];rfl
  | cons x t ih=>
   intro i b h
   show (if b=true then Aa _ _ t (i+1) true else g x (fun v14=>Aa _ _ t (i+1) v14))=_
   have h' :∀y∈t,∀k,g y k=k (q y):=fun y hy=>h y (X19 _ hy)
   rw[h x (by simp),ih (i+1) true h',ih (i+1) (q x) h',List.any_cons]
   cases b<;>rfl
 exact key l 0 b hg
theorem TQ {α σ ρ:Type}{K:σ->Option ρ}{body:(σ->Option ρ)->α->Nat->σ->Option ρ}(st:σ->α->σ)(I:Nat->σ->Prop)
  (hI :∀n s x,I (n+1) s->I n (st s x)) :∀(l:List α) (i:Nat) (s:σ),(∀next x j s n,x∈l->I (n+1) s->body next x j s=next (st s x))->I l.length s->Aa K body l i s=K (l.foldl st s)
 | [],_,_,_,_=>rfl
 | x::t,i,s,hb,h=>by
  show body (fun s'=>Aa K body t (i+1) s') x i s=_
  rw[hb _ x i s t.length (by simp) h]
  exact TQ st I hI t (i+1) (st s x) (fun next y j s n hy=>hb next y j s n (X19 _ hy)) (hI _ _ _ h)
def ad (b:Bool)(n:Int):List Int:=cond b [n] []
theorem NY {ρ:Type}{b:Bool}{n:Int}{v:List Int}{K:List Int->Option ρ}(hv:v.length<=1000) :
  AB (τ:=List Int) (fun k5=>if b=true then Option.bind (apnd (α:=Int) 8 v ([n]:List Int)) fun v6=>k5 v6 else k5 v) K=K (v++ad b n):=by
 rw[AC]
 cases b
 ·rw[if_neg (by simp)]
  show _=K (v++[])
  rw[List.append_nil]
 rw[if_pos rfl,BX (by decide) (by simp;omega),AA]
 rfl
theorem Y0 (b:Bool)(n:Int):(ad b n).length<=1:=by cases b<;>simp[ad]
def Gv (p:List JAE):List Int:=p.flatMap (·.ASNs)
theorem ZS (p:List JAE):(Gv p).length=tot p:=by
 induction p with
 | nil=>rfl
 | cons s t ih=>rw[HV,<- ih];simp[Gv]
theorem bO {ρ:Type}{K:List Int->Option ρ} :∀(p:List JAE) (i:Nat) (acc:List Int),acc.length+tot p<=1000000000->
  Aa (σ:=List Int) (fun v2=>K v2) (fun next3 (x4:JAE) _ v2=>Option.bind (apnd (α:=Int) 8 v2 x4.ASNs) fun v6=>next3 v6) p i acc=K (acc++Gv p)
 | [],_,acc,_=>by show K acc=K (acc++[]);rw[List.append_nil]
 | s::t,i,acc,h=>by
  rw[HV] at h
  show Option.bind (apnd (α:=Int) 8 acc s.ASNs) (fun v6=>Aa _ _ t (i+1) v6)=_
  rw[BX (by decide) (by omega),AA,bO t (i+1) _ (by rw[X11];omega)]
  show K _=K (acc++(s.ASNs++Gv t))
  rw[List.append_assoc]
theorem KT {p:List JAE}(h:tot p<=1000000000):HZ p=some (Gv p):=by
 unfold HZ
 rw[AC]
 exact bO p 0 [] (by simpa using h)
theorem I3 {p:List JAE}(h:tot p<=1000000000):GB p=some (Gv p):=KT h
theorem OP {p:List JAE}(h:F4 p=true){s:JAE}(hs:s∈p):s.ASNs≠[]:=by
 unfold F4 at h
 rw[X27,X27,List.all_eq_true] at h
 have:=h.1.1 s hs
 unfold Pe at this
 rw[X27,decide_eq_true_eq] at this
 intro e
 rw[e] at this
 exact this.1 rfl
def K0:List JAE->Int×Bool
 | []=>(0,false)
 | s::t=>if (F4 (s::t)&&!s.Set)=true then (s.ASNs.headD 0,true) else (0,false)
theorem PX (s:JAE)(t:List JAE):K0 (s::t)=if (F4 (s::t)&&!s.Set)=true then (s.ASNs.headD 0,true) else (0,false):=rfl
theorem IE {α:Type}(x:α)(t:List α):geti (x::t) 0=some x:=QR [] x t
theorem V4 {l:List Int}(h:l≠[]):geti l 0=some (l.headD 0):=by
 cases l with
 | nil=>exact absurd rfl h
 | cons x t=>exact IE x t
theorem QL {p:List JAE}(hl:p.length<=1000000000)(ht:tot p<=1000000000):Gt p=some (K0 p):=by
 unfold Gt
 rw[Hm (by omega) (by omega),AC]
 cases p with
 | nil=>rfl
 | cons s t=>
  rw[if_neg (by simp;omega),AA,IE,AA,AA]
  rw[PX]
  cases hv:F4 (s::t)
  ·rfl
  have hg:=V4 (OP hv (List.mem_cons_self ..))
  cases hs:s.Set
  ·show (Option.bind (geti s.ASNs 0) fun v6=>some (v6,true))=_
   rw[hg,AA];rfl
  rfl
theorem Kv {p:List JAE}(hl:p.length<=1000000000)(ht:tot p<=1000000000):GR p=some (K0 p):=by
 unfold GR
 rw[IK (by omega) (by omega),AC,AA]
 cases p with
 | nil=>cases F4 []<;>rfl
 | cons s t=>
  rw[IE,AA,AA]
  rw[PX]
  have h0:((((s::t).length:Nat):Int)==0)=false:=by
   rw[X12]
   simp only[beq_eq_false_iff_ne,ne_eq]
   omega
  rw[h0]
  cases hv:F4 (s::t)
  ·rfl
  have hg:=V4 (OP hv (List.mem_cons_self ..))
  cases hs:s.Set
  ·show (Option.bind (geti s.ASNs 0) fun v6=>some (v6,true))=_
   rw[hg,AA];rfl
  rfl
def Sl (l:List Int):Int:=l.getLastD 0
def Gj (p:List JAE):Int×Bool:=
 match p.getLast? with
 | none=>(0,false)
 | some s=>if (F4 p&&!s.Set)=true then (Sl s.ASNs,true) else (0,false)
theorem Nj {α:Type}{l:List α}{x:α}(h:l.getLast?=some x)(hl:l.length<=1000000000):geti l (A0 ((l.length:Int)-1))=some x:=by
 have hne:l≠[]:=by intro e;rw[e] at h;simp at h
 have h0:0<l.length:=List.length_pos_iff.2 hne
 rw[A3 (by omega),show (l.length:Int)-1=((l.length-1:Nat):Int) by omega,C7 (by omega)]
 rw[List.getLast?_eq_getElem?,X15 (by omega)] at h
 exact h
theorem TV {l:List Int}(h:l≠[]):l.getLast?=some (Sl l):=by
 unfold Sl
 rw[List.getLastD_eq_getLast?,List.getLast?_eq_some_getLast h]
 rfl
theorem NE {α:Type}(l:List α):(((l.length:Nat):Int)==0)=l.isEmpty:=by
 cases l with
 | nil=>rfl
 | cons x t=>
  show _=false
  rw[X12]
  simp only[beq_eq_false_iff_ne,ne_eq]
  omega
theorem U4 {α:Type}{l:List α}{x:α}(h:l.getLast?=some x):x∈l:=by
 rw[List.getLast?_eq_some_iff] at h
 obtain⟨ys,rfl⟩:=h
 simp
theorem O8 {p:List JAE}(hl:p.length<=1000000000)(ht:tot p<=1000000000):Fv p=some (Gj p):=by
 unfold Fv Gj
 rw[Hm (by omega) (by omega),AC,NE]
 cases hp:p.getLast? with
 | none=>
  have:p=[]:=List.getLast?_eq_none_iff.1 hp
  subst this
  rfl
 | some s=>
  show _=some (if (F4 p&&!s.Set)=true then (Sl s.ASNs,true) else (0,false))
  have hm:=U4 hp
  have he:p.isEmpty=false:=by cases p with
   | nil=>cases hm
   | cons _ _=>rfl
  rw[he,if_neg (by simp),AA,Nj hp hl,AA,AA]
  cases hv:F4 p
  ·rfl
  have hg:=TV (OP hv hm)
  have:=UY hm
  cases hs:s.Set
  ·show (Option.bind (geti s.ASNs (A0 ((s.ASNs.length:Int)-1))) fun v6=>some (v6,true))=_
   rw[Nj hg (by omega),AA];rfl
  rfl
theorem YU {p:List JAE}{s:JAE}(h:p.getLast?=some s)(hs:s.ASNs≠[]):(Gv p).getLast?=some (Sl s.ASNs):=by
 rw[List.getLast?_eq_some_iff] at h
 obtain⟨ys,rfl⟩:=h
 show (List.flatMap _ _).getLast?=_
 rw[List.flatMap_append,List.getLast?_append]
 have:(List.flatMap (fun x:JAE=>x.ASNs) [s])=s.ASNs:=by simp
 rw[this,TV hs]
 rfl
theorem KJ {p:List JAE}(hl:p.length<=1000000000)(ht:tot p<=1000000000):Fo p=some (Gj p):=by
 unfold Fo Gj
 rw[IK (by omega) (by omega),AC,AA,NE]
 cases hp:p.getLast? with
 | none=>
  have:p=[]:=List.getLast?_eq_none_iff.1 hp
  subst this
  cases F4 []<;>rfl
 | some s=>
  show _=some (if (F4 p&&!s.Set)=true then (Sl s.ASNs,true) else (0,false))
  have hm:=U4 hp
  have he:p.isEmpty=false:=by cases p with
   | nil=>cases hm
   | cons _ _=>rfl
  rw[he,Nj hp hl,AA]
  cases hv:F4 p
  ·rfl
  have hg:=YU hp (OP hv hm)
  cases hs:s.Set
  ·show (Option.bind (GB p) fun v5=>Option.bind (geti v5 (A0 ((v5.length:Int)-1))) fun v6=>some (v6,true))=_
   rw[I3 ht,AA,Nj hg (by rw[ZS];omega),AA];rfl
  rfl
theorem VL (p:List JAE) :∃v,Db p=some v:=by
 have h:Ok (Db p) fun _=>True:=by
  unfold Db
  refine .join (fun _=>True) (fun k hk=>.for_ (fun s=>hk s trivial) fun next x i s _ _ hn=>?_) fun _ _=>.ret trivial
  exact .join (fun _=>True) (fun k2 hk2=>.ite (fun _=>hk2 _ trivial) fun _=>hk2 _ trivial) fun v _=>hn v
 obtain⟨v,e,_⟩:=h
 exact⟨v,e⟩
def Xn (p:List JAE):Int:=(Db p).getD 0
theorem JU (p:List JAE):Db p=some (Xn p):=by
 obtain⟨v,h⟩:=VL p
 unfold Xn
 rw[h];rfl
theorem QK (p:List JAE):Hz p=some (Xn p):=JU p
theorem LZ {α:Type}{l:List α}{e:α->α->Bool}(h :∀a b,e a b=e b a)(x:α):(l.any fun y=>e x y)=l.any fun y=>e y x:=by
 congr 1
 funext y
 exact h x y
theorem VM (a b:Int):(a==b)=(b==a):=Bool.beq_comm
theorem TD (a b:Addr):Addr.eqd a b=Addr.eqd b a:=by
 rw[X28,Addr.eqd_iff,Addr.eqd_iff]
 exact⟨Eq.symm,Eq.symm⟩
theorem Nu {p:List JAE}(ht:tot p<=1000000000)(n:Int):H9 p n=some ((Gv p).any fun x=>n==x):=by
 unfold H9
 rw[I3 ht,AA,AC,LZ VM]
 exact ar (e:=fun x y:Int=>x==y) (Gv p) 0
theorem N3 (l:List Int)(n:Int):GV l n=some (l.any fun x=>n==x):=by
 unfold GV
 rw[AC,LZ VM]
 exact ar (e:=fun x y:Int=>x==y) l 0
theorem Ud (l:List Addr)(a:Addr):BH l a=some (l.any fun x=>Addr.eqd a x):=by
 unfold BH Bi
 exact LW (f:=fun x=>some (Addr.eqd a x)) fun _ _=>rfl
theorem Ub (l:List JAE):AY l=some (l.any fun s=>s.Set):=by
 unfold AY Am
 exact LW (f:=FW) fun _ _=>rfl
theorem G9 (a b c:Int):BG a b c=some (decide (b<=a)&&decide (a<=c)):=IB a b c
def Bf (a:JAG):Bool:=a.Communities.any fun y=>JAC.eqd y ⟨65535,666⟩
theorem YW (a b:JAC):JAC.eqd a b=JAC.eqd b a:=by
 rw[X28,eK,eK]
 exact⟨Eq.symm,Eq.symm⟩
theorem HB (a:JAG):FT a=some (Bf a):=by
 unfold FT
 rw[Td,AA];rfl
theorem Gf (a:JAG):D9 a=some (Bf a):=by
 unfold D9 HF A8 BC
 have h:(Option.bind (AB (τ:=Unit) (fun k1=>Aa (fun _=>k1 ()) (fun next x i _=>Option.bind (some (JAC.eqd ⟨65535,666⟩ x)) fun v=>if v then some (i:Int) else next ()) a.Communities 0 ()) fun _=>some (-1)) fun v1=>some (decide (v1 ≥ 0)))=some (a.Communities.any fun x=>JAC.eqd ⟨65535,666⟩ x):=LW (f:=fun x=>some (JAC.eqd ⟨65535,666⟩ x)) fun _ _=>rfl
 refine (congrArg (fun m=>Option.bind (Option.bind m fun v=>some v) fun v=>some v) h).trans ?_
 unfold Bf
 rw[LZ YW]
 rfl
def wd (o:JAB):JAB:={ o with Max:=cond o.JAA.Addr.V6 128 32 }
theorem Si (a:Addr):Fh a=some (cond a.V6 128 32):=by
 unfold Fh
 cases a.V6<;>rfl
theorem O6 (b:Bool):EB b=some (cond b 128 32):=by
 unfold EB
 cases b<;>rfl
theorem IR {l:List JAB}(hl:l.length<=1000000):EA l=some (l.map wd):=by
 unfold EA
 rw[AC]
 have h:=TQ (K:=fun v2:List JAB=>some v2) (body:=fun next3 (x4:JAB) (_:Nat) v2=>Option.bind (EB x4.JAA.Addr.V6) fun v6=>Option.bind (apnd (α:=JAB) 48 v2 ([{ x4 with Max:=v6 }]:List JAB)) fun v7=>next3 v7)
  (fun v x=>v++[wd x]) (fun n v=>v.length+n<=1000000) (fun n s x h=>by simp;omega) l 0 []
  (fun next x j s n _ h=>by
   show Option.bind (EB x.JAA.Addr.V6) _=_
   rw[O6,AA,BX (by decide) (by simp;omega),AA];rfl)
  (by simpa using hl)
 refine h.trans ?_
 have key :∀(l acc:List JAB),l.foldl (fun v x=>v++[wd x]) acc=acc++l.map wd:=by
  intro l
  induction l with
  | nil=>intro acc;simp
  | cons x t ih=>intro acc;rw[List.foldl_cons,ih];simp
 rw[key,List.nil_append]
theorem KH {l:List JAB}(hl:l.length<=1000000):EC l=some (l.map wd):=by
 unfold EC Ds
 rw[BX (by decide) (by simp;omega),AA,AA,AC]
 refine JR (fun p:Int×List JAB=>0<=p.1/\p.1<=l.length/\p.2=(l.take p.1.toNat).map wd++l.drop p.1.toNat) (fun p=>(l.length-p.1).toNat) (fun _=>some (l.map wd)) ?_ fuel (0,l) ⟨Int.le_refl _,by omega,rfl⟩ (EJ (by dsimp only;omega))
 rintro next ⟨i,v⟩ ⟨h0,h1,h2⟩ hn
 obtain⟨k,rfl⟩ :∃k:Nat,i=(k:Int):=⟨i.toNat,by omega⟩
 dsimp only at h0 h1 h2 ⊢
 rw[Int.toNat_natCast] at h2
 by_cases hk:k<l.length
 ·rw[if_pos (by simpa using hk)]
  have hl2:v.length=l.length:=by rw[h2];simp;omega
  have hd:l.drop k=l[k]::l.drop (k+1):=List.drop_eq_getElem_cons hk
  have hg:geti v (k:Int)=some l[k]:=by
   have:=QR ((l.take k).map wd) l[k] (l.drop (k+1))
   rw[X10,X18,Nat.min_eq_left (by omega)] at this
   rw[h2,hd];exact this
  rw[hg,AA,Si,AA,AA,A3 (by omega)]
  have hs:seti v (k:Int) (wd l[k])=some (v.set k (wd l[k])):=by
   unfold seti
   rw[if_pos (by omega),Int.toNat_natCast]
  have hs':seti v (k:Int) { l[k] with Max:=cond l[k].JAA.Addr.V6 128 32 }=some (v.set k (wd l[k])):=hs
  rw[hs',AA]
  refine hn _ ⟨by dsimp only;omega,by dsimp only;omega,?_⟩ (by dsimp only;omega)
  dsimp only
  rw[show ((k:Int)+1).toNat=k+1 by omega,h2,hd,List.set_append_right _ _ (by simp;omega),X10,X18,Nat.min_eq_left (by omega),Nat.sub_self,List.set_cons_zero,List.take_succ_eq_append_getElem hk,List.map_append,List.append_assoc]
  rfl
 rw[if_neg (by simpa using hk)]
 have:k=l.length:=by omega
 rw[h2,this,List.take_length,List.drop_length,List.append_nil]
theorem aW (n:Int):Im n=some (B8 n):=number_eq n
theorem YD {l:List Int}(h:l.length<=1000000):E9 l=some l:=by
 unfold E9
 rw[BX (by decide) (by simp;omega),AA]
theorem Yg {l:List UInt8}(h:l.length<=1000000):Ew l=some l:=by
 unfold Ew
 rw[BX (by decide) (by simp;omega),AA]
theorem Y6 {a:JAG}(h:SmS a):Ok (HU a) fun _=>True:=by
 have h1:=h.p
 have h2:=h.t
 have h5:=h.o
 unfold HU
 refine .join (fun _=>True) (fun k hk=>?_) fun v8 _=>.join (fun _=>True) (fun k hk=>?_) fun v16 _=>?_
 ·refine .forI (fun j s=>s.length=j) rfl (fun s _=>hk s trivial) fun next x i s hi hx hs hn=>?_
  have:=UY hx
  rw[YD (by omega),AA]
  exact .bind (.apnd (by decide) (by simp;omega)) fun w hw=>hn w (by rw[hw];simp[hs])
 ·refine .forI (fun j s=>s.length=j) rfl (fun s _=>hk s trivial) fun next x i s hi hx hs hn=>?_
  have:=h.d x hx
  rw[Yg (by omega),AA]
  exact .bind (.apnd (by decide) (by simp;omega)) fun w hw=>hn w (by rw[hw];simp[hs])
 unfold Cj D8
 have:=h.c
 have:=h.l
 rw[BX (by decide) (by simp;omega),AA,AA,BX (by decide) (by simp;omega),AA,AA]
 exact .ret trivial
def TB (n:Int)(a:JAG):Bool:=B8 n&&(a.OTC != -1)
theorem WB {n:Int}{a:JAG}(h:SmS a):Ok (Gk 1 n a) fun r=>(r.2==30)=TB n a:=by
 unfold Gk TB
 rw[show Jh 1=some true from rfl,aW]
 simp only[AC,AA]
 rw[if_neg (by simp)]
 cases B8 n
 ·exact .ret rfl
 rw[if_neg (by simp),if_neg (by decide),show (cond false true ((1:Int)==1))=true from rfl,if_pos rfl]
 cases ho:(a.OTC != -1)
 ·rw[if_neg (by simp),if_neg (by decide),if_neg (by simp)]
  obtain⟨c,e,_⟩:=Y6 h
  rw[e,AA,if_pos (by rfl),if_neg (by decide)]
  exact .ret rfl
 rw[if_pos (by simp),if_pos trivial]
 exact .ret rfl
theorem OW {n:Int}{a:JAG}:Ok (F3 1 n a) fun r=>(r.2==30)=TB n a:=by
 unfold F3 TB
 have hb:JO 1 n=some (!B8 n):=by
  unfold JO B8
  rw[show HG 1=some 2 from rfl,AC,AA,if_neg (by decide)]
  by_cases h1:n<1
  ·rw[if_pos (by simpa using h1),decide_eq_false (p:=1<=n) (by omega)];rfl
  rw[if_neg (by simpa using h1),decide_eq_true (p:=1<=n) (by omega)]
  by_cases h2:n > 4294967295
  ·rw[decide_eq_true h2,decide_eq_false (p:=n<=4294967295) (by omega)];rfl
  rw[decide_eq_false h2,decide_eq_true (p:=n<=4294967295) (by omega)];rfl
 rw[hb,AA]
 simp only[AC]
 cases B8 n
 ·exact .ret rfl
 rw[if_neg (by simp),if_neg (by decide),show (cond false true ((1:Int)==2))=false from rfl]
 cases ho:(a.OTC != -1)
 ·rw[if_neg (by simp),if_neg (by simp)]
  have:(a.OTC==-1)=true:=by
   rw[bne] at ho
   simpa using ho
  rw[this,if_pos rfl,if_neg (by simp),show (cond true (cond false true ((1:Int)==4)) false)=false from rfl,if_neg (by simp)]
  exact .ret rfl
 rw[if_pos rfl,if_pos (by rfl),if_pos (by decide),if_pos trivial]
 exact .ret rfl
def stS (p:JAA)(n:Int)(s:Int×List JAB)(o:JAB):Int×List JAB:=
 cond (cov o.JAA p) (cond (o.ASN==n&&(n != 0&&decide (o.Max ≥ p.Len))) 1 (cond (s.1==0) 2 s.1),s.2++[o]) s
def stE (l:List JAB)(p:JAA)(n:Int):Int:=(l.foldl (stS p n) (0,[])).1
theorem Xk (p:JAA)(n:Int)(s:Int×List JAB)(o:JAB):(stS p n s o).2.length<=s.2.length+1:=by
 unfold stS
 cases cov o.JAA p
 ·exact Nat.le_succ _
 show (s.2++[o]).length<=_
 simp
theorem Z5 {l:List JAB}{p:JAA}{n:Int}(hl:l.length<=1000000):Gn l p n=some (l.foldl (stS p n) (0,[])):=by
 unfold Gn
 simp only[AC]
 refine TQ (K:=fun s:Int×List JAB=>some (s.1,s.2)) (stS p n) (fun k s=>s.2.length+k<=1000000) (fun k s x h=>by have:=Xk p n s x;omega) l 0 (0,[]) (fun next x j s k _ h=>?_) (by simpa using hl)
 obtain⟨a,b⟩:=s
 dsimp only at h ⊢
 rw[Ec,AA]
 unfold stS
 cases cov x.JAA p
 ·rfl
 rw[if_neg (by simp),BX (by decide) (by simp;omega),AA]
 dsimp only
 simp only[cond_true]
 cases (x.ASN==n)
 ·cases (a==0)<;>rfl
 cases (n != 0)
 ·cases (a==0)<;>rfl
 cases decide (x.Max ≥ p.Len)
 ·cases (a==0)<;>rfl
 rfl
theorem RQ {l:List JAB}{p:JAA}{n:Int}(hl:l.length<=1000000)(hp:p.Addr.ok=true):HL l p n=some (l.foldl (stS p n) (0,[])):=by
 unfold HL
 simp only[AC]
 refine TQ (K:=fun s:Int×List JAB=>some (s.1,s.2)) (stS p n) (fun k s=>s.2.length+k<=1000000) (fun k s x h=>by have:=Xk p n s x;omega) l 0 (0,[]) (fun next x j s k _ h=>?_) (by simpa using hl)
 obtain⟨a,b⟩:=s
 dsimp only at h ⊢
 rw[CM hp,AA]
 unfold stS
 cases cov x.JAA p
 ·rfl
 rw[if_neg (by simp),BX (by decide) (by simp;omega),AA]
 dsimp only
 simp only[cond_true]
 cases (x.ASN==n)
 ·cases (a==0)<;>rfl
 cases (n != 0)
 ·cases (a==0)<;>rfl
 cases decide (x.Max ≥ p.Len)
 ·cases (a==0)<;>rfl
 cases (a==0)<;>rfl
theorem KB {r:JAD}{h:Int}{n:ByteArray}{p:JAA}{o:Int}(hz :∀s∈r.Sets,GM s)(hn:n.size<=maxLen)(hv:Fq r=true) :
  (∃e:Int,e≠0/\∀r':JAD,r'.Sets=r.Sets->Fq r'=true->Bq r' h n p o=some e)\/(∀r':JAD,r'.Sets=r.Sets->Fq r'=true->Bq r' h n p o=some (J5 r'.Objects p o)):=by
 have key :∀v:List Int,(∃e:Int,e≠0/\∀r':JAD,r'.Sets=r.Sets->Fq r'=true->(Option.bind (AS v o) fun v8=>if (!v8)=true then some 17 else Option.bind (Fa r' v) fun v9=>Option.bind (CN v9 p o) fun v10=>some v10)=some e)
  \/(∀r':JAD,r'.Sets=r.Sets->Fq r'=true->(Option.bind (AS v o) fun v8=>if (!v8)=true then some 17 else Option.bind (Fa r' v) fun v9=>Option.bind (CN v9 p o) fun v10=>some v10)=some (J5 r'.Objects p o)):=by
  intro v
  rw[GI]
  cases ha:(v.any fun x=>o==x)
  ·exact .inl ⟨17,by decide,fun _ _ _=>rfl⟩
  refine .inr fun r' _ hv'=>?_
  obtain⟨_,_,_,hlo⟩:=OE.1 hv'
  obtain⟨l,e1,_,e3⟩:=V0 (r:=r') (s:=v) (by omega)
  rw[AA,if_neg (by simp),e1,AA,Kw,AA,YN e3 ha]
 have hval :∀r':JAD,r'.Sets=r.Sets->Fq r'=true->E5 r'=some true:=fun r' h1 h2=>by rw[Gm (by rw[h1];exact hz),h2]
 have hexp :∀r':JAD,r'.Sets=r.Sets->Fq r'=true->DL r' n=DL r n:=fun r' h1 h2=>by
  unfold DL
  rw[hval r' h1 h2,hval r rfl hv,h1]
 unfold Bq
 by_cases he:(!(n.toList==(ByteArray.mk (List.toArray List.nil)).toList))=true
 ·obtain⟨a,m,e,e1,_⟩:=VY hz hn
  by_cases hx:(e != 0)=true
  ·refine .inl ⟨e,by simpa using hx,fun r' h1 h2=>?_⟩
   rw[hval r' h1 h2,AA,if_neg (by simp),AC,if_pos he,hexp r' h1 h2,e1,AA]
   dsimp only
   rw[if_pos hx]
  have ha:a.length<=1000000:=by
   obtain⟨hm,hnum⟩:=Qd hv
   obtain⟨⟨a',m',e'⟩,g1,g2⟩:=G5 hm hz hn hnum hv
   rw[e1] at g1
   simp only[X24,X26] at g1
   obtain⟨rfl,rfl,rfl⟩:=g1
   rcases g2 with ⟨_,g2⟩|⟨_,_,_,g2⟩
   ·simp only[X26] at g2
    rw[g2.1];simp
   have:=X2 hm g2
   simp only at this
   omega
  have hs :∀r':JAD,r'.Sets=r.Sets->Fq r'=true->(Option.bind (E5 r') fun v1=>if (!v1)=true then some 1 else AB (τ:=(List Int)) (fun k2=>if (!(n.toList==(ByteArray.mk (List.toArray List.nil)).toList))=true then Option.bind (DL r' n) fun (v3,_,v5)=>if (v5 != 0)=true then some v5 else Option.bind (apnd (α:=Int) 8 ([h]:List Int) v3) fun v6=>k2 v6 else k2 ([h]:List Int)) fun v7=>Option.bind (AS v7 o) fun v8=>if (!v8)=true then some 17 else Option.bind (Fa r' v7) fun v9=>Option.bind (CN v9 p o) fun v10=>some v10)=(Option.bind (AS ([h]++a) o) fun v8=>if (!v8)=true then some 17 else Option.bind (Fa r' ([h]++a)) fun v9=>Option.bind (CN v9 p o) fun v10=>some v10):=fun r' h1 h2=>by
   rw[hval r' h1 h2,AA,if_neg (by simp),AC,if_pos he,hexp r' h1 h2,e1,AA]
   dsimp only
   rw[if_neg hx,BX (by decide) (by simp;omega),AA]
  rcases key ([h]++a) with ⟨e',k1,k2⟩|k
  ·exact .inl ⟨e',k1,fun r' h1 h2=>(hs r' h1 h2).trans (k2 r' h1 h2)⟩
  exact .inr fun r' h1 h2=>(hs r' h1 h2).trans (k r' h1 h2)
 have hs :∀r':JAD,r'.Sets=r.Sets->Fq r'=true->(Option.bind (E5 r') fun v1=>if (!v1)=true then some 1 else AB (τ:=(List Int)) (fun k2=>if (!(n.toList==(ByteArray.mk (List.toArray List.nil)).toList))=true then Option.bind (DL r' n) fun (v3,_,v5)=>if (v5 != 0)=true then some v5 else Option.bind (apnd (α:=Int) 8 ([h]:List Int) v3) fun v6=>k2 v6 else k2 ([h]:List Int)) fun v7=>Option.bind (AS v7 o) fun v8=>if (!v8)=true then some 17 else Option.bind (Fa r' v7) fun v9=>Option.bind (CN v9 p o) fun v10=>some v10)=(Option.bind (AS [h] o) fun v8=>if (!v8)=true then some 17 else Option.bind (Fa r' [h]) fun v9=>Option.bind (CN v9 p o) fun v10=>some v10):=fun r' h1 h2=>by
  rw[hval r' h1 h2,AA,if_neg (by simp),AC,if_neg he]
 rcases key [h] with ⟨e',k1,k2⟩|k
 ·exact .inl ⟨e',k1,fun r' h1 h2=>(hs r' h1 h2).trans (k2 r' h1 h2)⟩
 exact .inr fun r' h1 h2=>(hs r' h1 h2).trans (k r' h1 h2)
def Kt (r:JAD)(h:Int)(n:ByteArray)(p:JAA)(o:Int):Int:=(Bq r h n p o).getD 1
theorem N1 {r:JAD}{h:Int}{n:ByteArray}{p:JAA}{o:Int}(hz :∀s∈r.Sets,GM s)(hn:n.size<=maxLen) :
  Bq r h n p o=some (Kt r h n p o)/\DJ r h n p o=some (Kt r h n p o):=by
 obtain⟨v,h1,h2⟩:=RO (h:=h) (p:=p) (o:=o) hz hn
 unfold Kt
 rw[h1]
 exact⟨rfl,h2⟩
theorem XD {r:JAD}{h:Int}{n:ByteArray}{p:JAA}{o:Int}(hz :∀s∈r.Sets,GM s)(hn:n.size<=maxLen)(hv:Fq r=true)(h0:Kt r h n p o=0):JM r.Objects p o=true:=by
 have hp:=(N1 (h:=h) (p:=p) (o:=o) hz hn).1
 rw[h0] at hp
 rcases KB (h:=h) (p:=p) (o:=o) hz hn hv with ⟨e,h1,h2⟩|h2
 ·rw[h2 r rfl hv] at hp
  exact absurd (X25 hp) h1
 rw[h2 r rfl hv] at hp
 exact (MS.1 (X25 hp)).2
theorem WS {r r':JAD}{h:Int}{n:ByteArray}{p:JAA}{o:Int}(hz :∀s∈r.Sets,GM s)(hn:n.size<=maxLen)(hv:Fq r=true)(hs:r'.Sets=r.Sets)(hv':Fq r'=true)(hm :∀x∈r.Objects,x∈r'.Objects)(h0:Kt r h n p o=0):Kt r' h n p o=0:=by
 have hp:=(N1 (h:=h) (p:=p) (o:=o) hz hn).1
 rw[h0] at hp
 rcases KB (h:=h) (p:=p) (o:=o) hz hn hv with ⟨e,h1,h2⟩|h2
 ·rw[h2 r rfl hv] at hp
  exact absurd (X25 hp) h1
 rw[h2 r rfl hv] at hp
 obtain⟨g1,g2⟩:=MS.1 (X25 hp)
 have:J5 r'.Objects p o=0:=by
  refine MS.2 ⟨g1,?_⟩
  unfold JM at g2 ⊢
  rw[List.any_eq_true] at g2 ⊢
  obtain⟨x,x1,x2⟩:=g2
  exact⟨x,hm x x1,x2⟩
 unfold Kt
 rw[h2 r' hs hv',this];rfl
end Go.AX.Q24
end
section
namespace Go.AX.Q24
open Go Go.AX
structure FOk (f:JAI):Prop where
 s :∀s∈f.JAD.Sets,GM s
 o:f.JAD.Objects.length<=1000000
 r:f.Origins.length<=1000000
 l :∀x∈f.LANs,x.Addr.ok=true
def wdI (b:Bool)(l:List JAB):List JAB:=cond b (l.map wd) l
theorem XH (b:Bool)(l:List JAB):(wdI b l).length=l.length:=by cases b<;>simp[wdI]
def M6 (p:List JAE):Int:=cond (Gj p).2 (Gj p).1 (-1)
def Rn (f:JAI)(h:Bool):JAD:=⟨f.JAD.Sets,wdI h f.JAD.Objects⟩
def b1 (p:JAO)(r:JAK):Bool:=!(K0 r.JAG.Path).2 || ((K0 r.JAG.Path).1 != p.ASN)
def b2 (p:JAO)(r:JAK):Bool:=!(p.Nexts.any fun x=>Addr.eqd r.JAG.Next x)
def b3 (f:JAI)(r:JAK):Bool:=decide (Xn r.JAG.Path > f.Hops)
def b4 (f:JAI)(r:JAK):Bool:=(Gv r.JAG.Path).any fun x=>f.Own==x
def b5 (r:JAK):Bool:=r.JAG.Path.any fun s=>s.Set
def pv (f:JAI)(n:Int):Bool:=f.Private.any fun s=>decide (s.From<=n)&&decide (n<=s.To)
def b6 (f:JAI)(r:JAK):Bool:=(Gv r.JAG.Path).any (pv f)
def inL (l:List Int)(n:Int):Bool:=l.any fun x=>n==x
def fr (f:JAI)(p:JAO)(n:Int):Bool:=(n != p.ASN)&&inL f.Free n
def b7 (f:JAI)(p:JAO)(r:JAK):Bool:=!(inL f.Free p.ASN)&&(Gv r.JAG.Path).any (fr f p)
def b8 (p:JAO)(r:JAK):Bool:=TB p.ASN r.JAG
def b9 (f:JAI)(r:JAK):Bool:=f.LANs.any fun x=>cov x r.JAA || cov r.JAA x
def b10 (f:JAI)(r:JAK):Bool:=f.Bogons.any fun x=>cov x r.JAA
def b11 (f:JAI)(r:JAK)(h:Bool):Bool:=
 cond h (decide (r.JAA.Len<cond r.JAA.Addr.V6 f.Hole6 f.Hole4)) (!(decide (cond r.JAA.Addr.V6 f.Min6 f.Min4<=r.JAA.Len)&&decide (r.JAA.Len<=cond r.JAA.Addr.V6 f.Max6 f.Max4)))
def b12 (f:JAI)(p:JAO)(r:JAK)(h:Bool):Bool:=Kt (Rn f h) p.ASN p.Set r.JAA (M6 r.JAG.Path) != 0
def b13 (f:JAI)(r:JAK)(h:Bool):Bool:=stE (wdI h f.Origins) r.JAA (M6 r.JAG.Path)==2
def C3 (f:JAI)(p:JAO)(r:JAK):List (Int×Bool):=
 [(2,b1 p r),(3,b2 p r),(4,b3 f r),(5,b4 f r),(6,b5 r),(7,b6 f r),(8,b7 f p r),(9,b8 p r),(10,b9 f r),(11,b10 f r),(12,b11 f r (Bf r.JAG)),(13,b12 f p r (Bf r.JAG)),(14,b13 f r (Bf r.JAG))]
def fs:List (Int×Bool)->List Int
 | []=>[]
 | (k,b)::t=>ad b k++fs t
def F5 (r:JAK):Bool:=DN r.JAA&&(Jn r.JAG&&((r.JAG.Origin != -1)&&(!(r.JAG.Path.isEmpty)&&(!(Addr.eqd r.JAG.Next ⟨false,0,0⟩)&&(r.JAG.Next.V6==r.JAA.Addr.V6)))))
def Is (f:JAI)(p:JAO)(r:JAK):List Int:=cond (F5 r) (fs (C3 f p r)) [1]
theorem VK {r:JAK}(h:F5 r=true):SmS r.JAG:=by
 unfold F5 at h
 rw[X27,X27] at h
 exact SmS.of h.2.1
theorem YS {r:JAK}(h:SmT r.JAG):Ft r=some (F5 r):=by
 unfold Ft F5
 rw[E1,AC,AA,W4 h,AA]
 have e:decide ((r.JAG.Path.length:Int) > 0)=!(r.JAG.Path.isEmpty):=by
  cases r.JAG.Path with
  | nil=>rfl
  | cons _ _=>simp
 rw[e]
 generalize (r.JAG.Path.isEmpty)=c
 generalize (r.JAG.Origin != -1)=d
 generalize (Addr.eqd r.JAG.Next ⟨false,0,0⟩)=g
 cases DN r.JAA
 ·rfl
 cases Jn r.JAG
 ·rfl
 cases d
 ·rfl
 cases c
 ·cases g<;>rfl
 rfl
theorem cd {r:JAK}(h:SmT r.JAG):JH r=some (!F5 r):=by
 unfold JH F5
 rw[EU,AC,AA,X4 h,AA,NE]
 have e:(r.JAG.Origin==-1)=!(r.JAG.Origin != -1):=by rw[bne,Bool.not_not]
 rw[e]
 generalize (r.JAG.Path.isEmpty)=c
 generalize (r.JAG.Origin != -1)=d
 generalize (Addr.eqd r.JAG.Next ⟨false,0,0⟩)=g
 generalize (r.JAG.Next.V6==r.JAA.Addr.V6)=q
 cases DN r.JAA
 ·rfl
 cases Jn r.JAG
 ·rfl
 cases d
 ·rfl
 cases c
 ·cases g<;>cases q<;>rfl
 rfl
section
variable {x:JAF}
theorem dU (h:SmS x.r.JAG):EV x=some (b1 x.p x.r,x):=by
 unfold EV b1
 rw[QL (by have:=h.p;omega) (by have:=h.t;omega),AA]
 generalize K0 x.r.JAG.Path=q
 obtain⟨u,v⟩:=q
 dsimp only
 rw[AC]
 cases v<;>rfl
theorem rule2:EX x=some (b2 x.p x.r,x):=by
 unfold EX b2
 rw[Ud,AA]
theorem dP:Eb x=some (b3 x.f x.r,x):=by
 unfold Eb b3
 rw[JU,AA]
theorem du (hp:x.path=Gv x.r.JAG.Path):EM x=some (b4 x.f x.r,x):=by
 unfold EM b4
 rw[GI,AA,hp]
theorem ck:EW x=some (b5 x.r,x):=by
 unfold EW b5
 rw[Ub,AA]
theorem fpr (s:JAN)(n:Int):BM s n=some (decide (s.From<=n)&&decide (n<=s.To),n):=by
 unfold BM
 rw[G9,AA]
theorem YL (l:List JAN)(n:Int):AO l n=some (l.any fun s=>decide (s.From<=n)&&decide (n<=s.To),n):=by
 unfold AO Aj
 simp only[AC]
 have key :∀(l:List JAN) (i:Nat),Aa (σ:=Int) (fun v2=>some ((-1:Int),v2)) (fun next3 (x4:JAN) i5 v2=>Option.bind (BM x4 v2) fun (v6,v7)=>if v6=true then some ((i5:Int),v7) else next3 v7) l i n
   = some (match l.findIdx? (fun s=>decide (s.From<=n)&&decide (n<=s.To)) with | some j=>((i+j:Nat):Int)|none=>-1,n):=by
  intro l
  induction l with
  | nil=>intro i;rfl
  | cons s t ih=>
   intro i
   show Option.bind (BM s n) _=_
   rw[fpr,AA,List.findIdx?_cons]
   show (if (decide (s.From<=n)&&decide (n<=s.To))=true then some ((i:Int),n) else Aa _ _ t (i+1) n)=_
   by_cases hq:(decide (s.From<=n)&&decide (n<=s.To))=true
   ·rw[if_pos hq,if_pos hq];simp
   rw[if_neg hq,if_neg hq,ih (i+1)]
   cases t.findIdx? (fun s=>decide (s.From<=n)&&decide (n<=s.To)) with
   | none=>rfl
   | some j=>simp only[Option.map_some];rw[show i+1+j=i+(j+1) by omega]
 rw[key l 0,AA]
 dsimp only
 congr 2
 cases hf:l.findIdx? (fun s=>decide (s.From<=n)&&decide (n<=s.To)) with
 | none=>
  rw[List.findIdx?_eq_none_iff] at hf
  have:(l.any fun s=>decide (s.From<=n)&&decide (n<=s.To))=false:=by
   rw[List.any_eq_false]
   intro s hs
   rw[hf s hs];simp
  rw[this];rfl
 | some j=>
  obtain⟨hj,hq,_⟩:=List.findIdx?_eq_some_iff_getElem.1 hf
  have:(l.any fun s=>decide (s.From<=n)&&decide (n<=s.To))=true:=List.any_eq_true.2 ⟨_,List.getElem_mem hj,hq⟩
  rw[this]
  simp
theorem eH (hp:x.path=Gv x.r.JAG.Path):B1 x=some (b6 x.f x.r,x):=by
 unfold B1 b6
 rw[hp]
 refine (aD (q:=pv x.f) (fun n k=>Option.bind (AO x.f.Private n) fun (v8,_)=>k v8) (K:=fun v=>some (v,x)) fun n _ k=>?_)
 rw[YL,AA]
 rfl
theorem eB (hp:x.path=Gv x.r.JAG.Path):DF x=some (b7 x.f x.p x.r,x):=by
 unfold DF b7
 rw[GI,AA,hp]
 show (if inL x.f.Free x.p.ASN=true then _ else _)=_
 cases inL x.f.Free x.p.ASN
 ·rw[if_neg (by simp)]
  refine (aD (q:=fr x.f x.p) (fun n k=>AB (τ:=Bool) (fun k9=>if (n != x.p.ASN)=true then Option.bind (AS x.f.Free n) fun v10=>k9 (cond true v10 false) else k9 false) fun v11=>k v11) (K:=fun v=>some (v,x)) fun n _ k=>?_)
  rw[AC,GI,AA]
  unfold fr
  cases (n != x.p.ASN)<;>rfl
 rfl
theorem dm (h:SmS x.r.JAG):EK x=some (b8 x.p x.r,x):=by
 unfold EK b8
 obtain⟨r,e,hr⟩:=WB (n:=x.p.ASN) h
 rw[e,AA,<- hr]
theorem dH:Ee x=some (b9 x.f x.r,x):=by
 unfold Ee b9
 refine (aD (q:=fun y=>cov y x.r.JAA || cov x.r.JAA y) (fun y k=>AB (τ:=Bool) (fun k8=>Option.bind (Be y x.r.JAA) fun v9=>if v9=true then k8 true else Option.bind (Be x.r.JAA y) fun v10=>k8 (cond false true v10)) fun v11=>k v11) (K:=fun v=>some (v,x)) fun y _ k=>?_)
 rw[AC,Ec,Ec,AA,AA]
 cases cov y x.r.JAA<;>rfl
theorem bo:Ef x=some (b10 x.f x.r,x):=by
 unfold Ef b10
 refine (aD (q:=fun y=>cov y x.r.JAA) (fun y k=>Option.bind (Be y x.r.JAA) fun v8=>k v8) (K:=fun v=>some (v,x)) fun y _ k=>?_)
 rw[Ec,AA]
theorem bj:CG x=some (b11 x.f x.r x.hole,x):=by
 unfold CG b11
 have key :∀lo hi ho:Int,(if x.hole=true then some (decide (x.r.JAA.Len<ho),x) else Option.bind (BG x.r.JAA.Len lo hi) fun v5=>some (!v5,x))=some (cond x.hole (decide (x.r.JAA.Len<ho)) (!(decide (lo<=x.r.JAA.Len)&&decide (x.r.JAA.Len<=hi))),x):=by
  intro lo hi ho
  rw[G9,AA]
  cases x.hole<;>rfl
 rw[AC]
 cases x.r.JAA.Addr.V6
 ·exact key _ _ _
 exact key _ _ _
theorem dc {ρ:Type}{L:List JAB}{b:Bool}{K:List JAB->Option ρ}(hl:L.length<=1000000):AB (τ:=List JAB) (fun k1=>if b=true then Option.bind (EC L) fun v2=>k1 v2 else k1 L) K=K (wdI b L):=by
 rw[AC,KH hl]
 cases b<;>rfl
theorem cQ (h:FOk x.f)(hs:x.p.Set.size<=maxLen)(ho:x.origin=M6 x.r.JAG.Path):EP x=some (b12 x.f x.p x.r x.hole,x):=by
 unfold EP b12 Rn
 rw[dc h.o,ho,(N1 (r:=⟨x.f.JAD.Sets,wdI x.hole x.f.JAD.Objects⟩) h.s hs).1,AA]
theorem bp (h:FOk x.f)(ho:x.origin=M6 x.r.JAG.Path):Dx x=some (b13 x.f x.r x.hole,x):=by
 unfold Dx b13
 rw[dc h.r,ho,Z5 (by rw[XH];exact h.r),AA]
 rfl
end
def IZ (m:Int)(out:List Int)(u:Int×Bool):List Int:=cond (decide ((out.length:Int)<m)&&u.2) (out++[u.1]) out
theorem QO (m:Nat) :∀(l:List (Int×Bool)) (out:List Int),out.length<=m->l.foldl (IZ m) out=(out++fs l).take m
 | [],out,h=>by
  rw[List.foldl_nil]
  show out=(out++[]).take m
  rw[List.append_nil,List.take_of_length_le h]
 | (k,b)::t,out,h=>by
  rw[List.foldl_cons]
  unfold IZ
  show List.foldl (IZ m) (cond (decide ((out.length:Int)<m)&&b) (out++[k]) out) t=(out++(ad b k++fs t)).take m
  by_cases hm:out.length<m
  ·rw[decide_eq_true (by omega:(out.length:Int)<m)]
   cases b
   ·show List.foldl (IZ m) out t=(out++([]++fs t)).take m
    rw[QO m t out h,List.nil_append]
   show List.foldl (IZ m) (out++[k]) t=(out++([k]++fs t)).take m
   rw[QO m t _ (by simp;omega),List.append_assoc]
  rw[decide_eq_false (by omega:¬ (out.length:Int)<m)]
  show List.foldl (IZ m) out t=_
  rw[QO m t out h,List.take_append_of_le_length (by omega),List.take_append_of_le_length (by omega)]
end Go.AX.Q24
end
section
namespace Go.AX.Q24
open Go Go.AX
theorem WR {ρ:Type}{body:(JAF×List Int->Option ρ)->JAM->Nat->JAF×List Int->Option ρ}{K:JAF×List Int->Option ρ}{x:JAF}{m:Nat}{c1 c2 c3 c4 c5 c6 c7 c8 c9 c10 c11 c12 c13:Bool}
  (h1 :∀next j out,body next ⟨2,102⟩ j (x,out)=next (x,IZ m out (2,c1)))
  (h2 :∀next j out,body next ⟨3,104⟩ j (x,out)=next (x,IZ m out (3,c2)))
  (h3 :∀next j out,body next ⟨4,106⟩ j (x,out)=next (x,IZ m out (4,c3)))
  (h4 :∀next j out,body next ⟨5,108⟩ j (x,out)=next (x,IZ m out (5,c4)))
  (h5 :∀next j out,body next ⟨6,110⟩ j (x,out)=next (x,IZ m out (6,c5)))
  (h6 :∀next j out,body next ⟨7,113⟩ j (x,out)=next (x,IZ m out (7,c6)))
  (h7 :∀next j out,body next ⟨8,114⟩ j (x,out)=next (x,IZ m out (8,c7)))
  (h8 :∀next j out,body next ⟨9,115⟩ j (x,out)=next (x,IZ m out (9,c8)))
  (h9 :∀next j out,body next ⟨10,117⟩ j (x,out)=next (x,IZ m out (10,c9)))
  (h10 :∀next j out,body next ⟨11,120⟩ j (x,out)=next (x,IZ m out (11,c10)))
  (h11 :∀next j out,body next ⟨12,122⟩ j (x,out)=next (x,IZ m out (12,c11)))
  (h12 :∀next j out,body next ⟨13,123⟩ j (x,out)=next (x,IZ m out (13,c12)))
  (h13 :∀next j out,body next ⟨14,125⟩ j (x,out)=next (x,IZ m out (14,c13))) :
  Aa K body [⟨2,102⟩,⟨3,104⟩,⟨4,106⟩,⟨5,108⟩,⟨6,110⟩,⟨7,113⟩,⟨8,114⟩,⟨9,115⟩,⟨10,117⟩,⟨11,120⟩,⟨12,122⟩,⟨13,123⟩,⟨14,125⟩] 0 (x,[])
   = K (x,[(2,c1),(3,c2),(4,c3),(5,c4),(6,c5),(7,c6),(8,c7),(9,c8),(10,c9),(11,c10),(12,c11),(13,c12),(14,c13)].foldl (IZ m) []):=by
 have e :∀(u:JAM) (t:List JAM) (i:Nat) (s:JAF×List Int),Aa K body (u::t) i s=body (Aa K body t (i+1)) u i s:=fun _ _ _ _=>rfl
 rw[e,h1,e,h2,e,h3,e,h4,e,h5,e,h6,e,h7,e,h8,e,h9,e,h10,e,h11,e,h12,e,h13]
 rfl
theorem after {ρ:Type}{x:JAF}{m:Nat}(hm:m<=1000){b c:Bool}{k:Int}{out:List Int}{next:JAF×List Int->Option ρ}(hc:c=decide ((out.length:Int)<m)) :
  (if c=true then AB (τ:=List Int) (fun k44=>if b=true then Option.bind (apnd (α:=Int) 8 out ([k]:List Int)) fun v45=>k44 v45 else k44 out) (fun v46=>next (x,v46)) else next (x,out))=next (x,IZ m out (k,b)):=by
 unfold IZ
 subst hc
 by_cases h:(out.length:Int)<m
 ·rw[decide_eq_true h,if_pos rfl,NY (by omega)]
  cases b
  ·show next (x,out++[])=next (x,out)
   rw[List.append_nil]
  rfl
 rw[decide_eq_false h,if_neg (by simp)]
 rfl
theorem Q8 {f:JAI}{p:JAO}{r:JAK}{m:Nat}(hm:m<=1000)(hf:FOk f)(hp:p.Set.size<=maxLen)(hr:SmT r.JAG) :
  ES f p r (m:Int)=some (cond (F5 r) ((fs (C3 f p r)).take m) [1]):=by
 unfold ES
 rw[YS hr,AA]
 cases hfo:F5 r
 ·rfl
 have hr:=VK hfo
 rw[if_neg (by simp),KT (by have:=hr.t;omega),AA,Gf,AA,O8 (by have:=hr.p;omega) (by have:=hr.t;omega),AA]
 have ho :∀(K:Int->Option (List Int)),(match Gj r.JAG.Path with | (v4,v5)=>AB (τ:=Int) (fun k6=>if v5=true then k6 v4 else k6 (-1)) K)=K (M6 r.JAG.Path):=by
  intro K
  unfold M6
  generalize Gj r.JAG.Path=q
  obtain⟨u,v⟩:=q
  dsimp only
  rw[AC]
  cases v<;>rfl
 refine (ho _).trans ?_
 unfold H4
 rw[AA]
 simp only[AC]
 let x:JAF:=⟨f,p,r,Gv r.JAG.Path,M6 r.JAG.Path,Bf r.JAG⟩
 have q1:EV x=some (b1 p r,x):=dU hr
 have q2:EX x=some (b2 p r,x):=rule2
 have q3:Eb x=some (b3 f r,x):=dP
 have q4:EM x=some (b4 f r,x):=du rfl
 have q5:EW x=some (b5 r,x):=ck
 have q6:B1 x=some (b6 f r,x):=eH rfl
 have q7:DF x=some (b7 f p r,x):=eB rfl
 have q8:EK x=some (b8 p r,x):=dm hr
 have q9:Ee x=some (b9 f r,x):=dH
 have q10:Ef x=some (b10 f r,x):=bo
 have q11:CG x=some (b11 f r (Bf r.JAG),x):=bj
 have q12:EP x=some (b12 f p r (Bf r.JAG),x):=cQ hf hp rfl
 have q13:Dx x=some (b13 f r (Bf r.JAG),x):=bp hf rfl
 refine (WR (x:=x) (m:=m) (c1:=b1 p r) (c2:=b2 p r) (c3:=b3 f r) (c4:=b4 f r) (c5:=b5 r) (c6:=b6 f r) (c7:=b7 f p r) (c8:=b8 p r) (c9:=b9 f r) (c10:=b10 f r) (c11:=b11 f r (Bf r.JAG)) (c12:=b12 f p r (Bf r.JAG)) (c13:=b13 f r (Bf r.JAG)) ?_ ?_ ?_ ?_ ?_ ?_ ?_ ?_ ?_ ?_ ?_ ?_ ?_).trans ?_
 ·intro next j out
  refine Eq.trans ?_ (after (x:=x) hm rfl)
  by_cases hc:decide ((out.length:Int)<m)=true
  ·rw[if_pos hc,if_pos hc,if_pos (by rfl),q1,AA];rfl
  rw[if_neg hc,if_neg hc];rfl
 ·intro next j out
  refine Eq.trans ?_ (after (x:=x) hm rfl)
  by_cases hc:decide ((out.length:Int)<m)=true
  ·rw[if_pos hc,if_pos hc,if_neg (by decide),if_pos (by rfl),q2,AA];rfl
  rw[if_neg hc,if_neg hc];rfl
 ·intro next j out
  refine Eq.trans ?_ (after (x:=x) hm rfl)
  by_cases hc:decide ((out.length:Int)<m)=true
  ·rw[if_pos hc,if_pos hc,if_neg (by decide),if_neg (by decide),if_pos (by rfl),q3,AA];rfl
  rw[if_neg hc,if_neg hc];rfl
 ·intro next j out
  refine Eq.trans ?_ (after (x:=x) hm rfl)
  by_cases hc:decide ((out.length:Int)<m)=true
  ·rw[if_pos hc,if_pos hc,if_neg (by decide),if_neg (by decide),if_neg (by decide),if_pos (by rfl),q4,AA];rfl
  rw[if_neg hc,if_neg hc];rfl
 ·intro next j out
  refine Eq.trans ?_ (after (x:=x) hm rfl)
  by_cases hc:decide ((out.length:Int)<m)=true
  ·rw[if_pos hc,if_pos hc,if_neg (by decide),if_neg (by decide),if_neg (by decide),if_neg (by decide),if_pos (by rfl),q5,AA];rfl
  rw[if_neg hc,if_neg hc];rfl
 ·intro next j out
  refine Eq.trans ?_ (after (x:=x) hm rfl)
  by_cases hc:decide ((out.length:Int)<m)=true
  ·rw[if_pos hc,if_pos hc,if_neg (by decide),if_neg (by decide),if_neg (by decide),if_neg (by decide),if_neg (by decide),if_pos (by rfl),q6,AA];rfl
  rw[if_neg hc,if_neg hc];rfl
 ·intro next j out
  refine Eq.trans ?_ (after (x:=x) hm rfl)
  by_cases hc:decide ((out.length:Int)<m)=true
  ·rw[if_pos hc,if_pos hc,if_neg (by decide),if_neg (by decide),if_neg (by decide),if_neg (by decide),if_neg (by decide),if_neg (by decide),if_pos (by rfl),q7,AA];rfl
  rw[if_neg hc,if_neg hc];rfl
 ·intro next j out
  refine Eq.trans ?_ (after (x:=x) hm rfl)
  by_cases hc:decide ((out.length:Int)<m)=true
  ·rw[if_pos hc,if_pos hc,if_neg (by decide),if_neg (by decide),if_neg (by decide),if_neg (by decide),if_neg (by decide),if_neg (by decide),if_neg (by decide),if_pos (by rfl),q8,AA];rfl
  rw[if_neg hc,if_neg hc];rfl
 ·intro next j out
  refine Eq.trans ?_ (after (x:=x) hm rfl)
  by_cases hc:decide ((out.length:Int)<m)=true
  ·rw[if_pos hc,if_pos hc,if_neg (by decide),if_neg (by decide),if_neg (by decide),if_neg (by decide),if_neg (by decide),if_neg (by decide),if_neg (by decide),if_neg (by decide),if_pos (by rfl),q9,AA];rfl
  rw[if_neg hc,if_neg hc];rfl
 ·intro next j out
  refine Eq.trans ?_ (after (x:=x) hm rfl)
  by_cases hc:decide ((out.length:Int)<m)=true
  ·rw[if_pos hc,if_pos hc,if_neg (by decide),if_neg (by decide),if_neg (by decide),if_neg (by decide),if_neg (by decide),if_neg (by decide),if_neg (by decide),if_neg (by decide),if_neg (by decide),if_pos (by rfl),q10,AA];rfl
  rw[if_neg hc,if_neg hc];rfl
 ·intro next j out
  refine Eq.trans ?_ (after (x:=x) hm rfl)
  by_cases hc:decide ((out.length:Int)<m)=true
  ·rw[if_pos hc,if_pos hc,if_neg (by decide),if_neg (by decide),if_neg (by decide),if_neg (by decide),if_neg (by decide),if_neg (by decide),if_neg (by decide),if_neg (by decide),if_neg (by decide),if_neg (by decide),if_pos (by rfl),q11,AA];rfl
  rw[if_neg hc,if_neg hc];rfl
 ·intro next j out
  refine Eq.trans ?_ (after (x:=x) hm rfl)
  by_cases hc:decide ((out.length:Int)<m)=true
  ·rw[if_pos hc,if_pos hc,if_neg (by decide),if_neg (by decide),if_neg (by decide),if_neg (by decide),if_neg (by decide),if_neg (by decide),if_neg (by decide),if_neg (by decide),if_neg (by decide),if_neg (by decide),if_neg (by decide),if_pos (by rfl),q12,AA];rfl
  rw[if_neg hc,if_neg hc];rfl
 ·intro next j out
  refine Eq.trans ?_ (after (x:=x) hm rfl)
  by_cases hc:decide ((out.length:Int)<m)=true
  ·rw[if_pos hc,if_pos hc,if_neg (by decide),if_neg (by decide),if_neg (by decide),if_neg (by decide),if_neg (by decide),if_neg (by decide),if_neg (by decide),if_neg (by decide),if_neg (by decide),if_neg (by decide),if_neg (by decide),if_neg (by decide),if_pos (by rfl),q13,AA];rfl
  rw[if_neg hc,if_neg hc];rfl
 have:=QO m (C3 f p r) [] (by simp)
 rw[List.nil_append] at this
 rw[show ([(2,b1 p r),(3,b2 p r),(4,b3 f r),(5,b4 f r),(6,b5 r),(7,b6 f r),(8,b7 f p r),(9,b8 p r),(10,b9 f r),(11,b10 f r),(12,b11 f r (Bf r.JAG)),(13,b12 f p r (Bf r.JAG)),(14,b13 f r (Bf r.JAG))]:List (Int×Bool))=C3 f p r from rfl,this]
 rfl
theorem Wv :∀l:List (Int×Bool),(fs l).length<=l.length
 | []=>Nat.le_refl _
 | (k,b)::t=>by
  have:=Wv t
  have:=Y0 b k
  show (ad b k++fs t).length<=t.length+1
  rw[X11];omega
theorem Tm {f:JAI}{p:JAO}{r:JAK}(hf:FOk f)(hp:p.Set.size<=maxLen)(hr:SmT r.JAG):FR f p r=some (Is f p r):=by
 unfold FR Is
 have h:=Q8 (m:=14) (by decide) hf hp hr
 rw[List.take_of_length_le (by have:=Wv (C3 f p r);simp[C3] at this ⊢;omega)] at h
 refine (congrArg (fun m=>Option.bind m fun v1=>some v1) h).trans ?_
 rfl
def chE (f:JAI)(p:JAO)(r:JAK):Int:=(Is f p r).headD 0
theorem RZ {f:JAI}{p:JAO}{r:JAK}(hf:FOk f)(hp:p.Set.size<=maxLen)(hr:SmT r.JAG):Ci f p r=some (chE f p r):=by
 unfold Ci chE Is
 have h:=Q8 (m:=1) (by decide) hf hp hr
 refine (congrArg (fun m=>Option.bind m fun v1=>if (decide ((v1.length:Int) > 0))=true then Option.bind (geti v1 0) fun v2=>some v2 else some 0) h).trans ?_
 rw[AA]
 cases F5 r
 ·rfl
 show (if (decide ((((fs (C3 f p r)).take 1).length:Int) > 0))=true then Option.bind (geti ((fs (C3 f p r)).take 1) 0) fun v2=>some v2 else some 0)=some ((fs (C3 f p r)).headD 0)
 cases fs (C3 f p r) with
 | nil=>rfl
 | cons x t=>
  rw[List.take_succ_cons,List.take_zero,if_pos (by simp),IE,AA]
  rfl
theorem orN {ρ:Type}{a b:Bool}{K:Bool->Option ρ}:AB (τ:=Bool) (fun k3=>if (!a)=true then k3 true else k3 (cond false true b)) K=K (!a || b):=by
 rw[AC]
 cases a<;>rfl
theorem DY {l:List Int}{n:Nat}(h:l.length<=n)(b:Bool)(k:Int):(l++ad b k).length<=n+1:=by
 have:=Y0 b k
 rw[X11];omega
theorem Y1 {f:JAI}{p:JAO}(l:List Int)(a b:Bool):l.foldl (fun (s:Bool×Bool) n=>(s.1 || pv f n,s.2 || (!(inL f.Free p.ASN)&&fr f p n))) (a,b)=(a || l.any (pv f),b || (!(inL f.Free p.ASN)&&l.any (fr f p))):=by
 induction l generalizing a b with
 | nil=>simp
 | cons n t ih=>
  rw[List.foldl_cons,ih,List.any_cons,List.any_cons]
  cases a<;>cases b<;>cases pv f n<;>cases fr f p n<;>cases inL f.Free p.ASN<;>simp
theorem Yl {f:JAI}{p:JAO}{r:JAK}(hr:SmS r.JAG) :
  Gg f p r.JAG=some ([]++ad (b1 p r) 2++ad (b2 p r) 3++ad (b3 f r) 4++ad (b4 f r) 5++ad (b5 r) 6++ad (b6 f r) 7++ad (b7 f p r) 8++ad (b8 p r) 9):=by
 have l0:([]:List Int).length<=0:=Nat.le_refl _
 have l1:=DY l0 (b1 p r) 2
 have l2:=DY l1 (b2 p r) 3
 have l3:=DY l2 (b3 f r) 4
 have l4:=DY l3 (b4 f r) 5
 have l5:=DY l4 (b5 r) 6
 have l6:=DY l5 (b6 f r) 7
 have l7:=DY l6 (b7 f p r) 8
 unfold Gg
 rw[Kv (by have:=hr.p;omega) (by have:=hr.t;omega),AA]
 obtain⟨u,v,hq⟩ :∃u v,K0 r.JAG.Path=(u,v):=⟨_,_,rfl⟩
 have e1:(!v || (u != p.ASN))=b1 p r:=by unfold b1;rw[hq]
 rw[hq]
 show AB (τ:=Bool) (fun k3=>if (!v)=true then k3 true else k3 (cond false true (u != p.ASN))) _=_
 rw[orN,e1,NY (by omega)]
 refine (orJ (q:=fun x=>Addr.eqd x r.JAG.Next) (fun x k=>k (cond false true (Addr.eqd x r.JAG.Next))) (fun _ _ _=>rfl) false).trans ?_
 have e2:(!(false || p.Nexts.any fun x=>Addr.eqd x r.JAG.Next))=b2 p r:=by
  unfold b2
  rw[Bool.false_or,LZ TD]
 rw[e2,NY (by omega),QK,AA]
 show AB (τ:=List Int) (fun k20=>if b3 f r=true then _ else _) _=_
 rw[NY (by omega),Nu (by have:=hr.t;omega),AA]
 show AB (τ:=List Int) (fun k20=>if b4 f r=true then _ else _) _=_
 rw[NY (by omega)]
 refine (orJ (q:=fun x:JAE=>x.Set) (fun x k=>k (cond false true x.Set)) (fun _ _ _=>rfl) false).trans ?_
 rw[I3 (by have:=hr.t;omega),AA]
 have hl :∀(K:Bool×Bool->Option (List Int)),AB (τ:=Bool×Bool) (fun k36=>Aa (σ:=Bool×Bool) (fun (v37,v38)=>k36 (v37,v38)) (fun next39 (x40:Int) i41 (v37,v38)=>
   AB (τ:=Bool×Bool) (fun k42=>
    AB (τ:=Bool) (fun k43=>
     Aa (σ:=Bool) (fun v44=>
      k43 v44
     ) (fun next45 (x46:JAN) i47 v44=>
      AB (τ:=Bool) (fun k48=>
       if v44 then
        k48 true
       else
        if (decide (x40 ≥ x46.From)) then
         k48 (cond false true (cond true (decide (x40<=x46.To)) false))
        else
         k48 false
      ) fun v49=>
      next45 v49
     ) f.Private 0 v37
    ) fun v50=>
    AB (τ:=Bool) (fun k51=>
     if v38 then
      k51 true
     else
      if (x40 != p.ASN) then
       Option.bind (GV f.Free x40) fun v52=>
       if (cond true v52 false) then
        Option.bind (GV f.Free p.ASN) fun v53=>
        k51 (cond false true (cond true (!v53) false))
       else
        k51 false
      else
       k51 false
    ) fun v54=>
    k42 (v50,v54)
   ) fun (v55,v56)=>
   next39 (v55,v56)) (Gv r.JAG.Path) 0 (false,false)) K=K (b6 f r,b7 f p r):=by
  intro K
  rw[AC]
  refine (TQ (K:=fun s:Bool×Bool=>K (s.1,s.2)) (fun (s:Bool×Bool) n=>(s.1 || pv f n,s.2 || (!(inL f.Free p.ASN)&&fr f p n))) (fun _ _=>True) (fun _ _ _ _=>trivial) (Gv r.JAG.Path) 0 (false,false) (fun next n j s _ _ _=>?_) trivial).trans ?_
  ·obtain⟨a,b⟩:=s
   dsimp only
   rw[AC]
   refine (orJ (q:=fun s:JAN=>decide (s.From<=n)&&decide (n<=s.To)) (fun s k=>if (decide (n ≥ s.From))=true then k (cond false true (cond true (decide (n<=s.To)) false)) else k false) (fun s _ k=>?_) a).trans ?_
   ·by_cases h1:s.From<=n
    ·rw[if_pos (by simpa using h1),decide_eq_true h1];rfl
    rw[if_neg (by simpa using h1),decide_eq_false h1];rfl
   rw[AC,N3,N3,AA,AA]
   unfold fr inL
   show _=next (a || pv f n,_)
   unfold pv
   cases b
   ·cases (n != p.ASN)
    ·simp
    cases (f.Free.any fun x=>n==x)
    ·simp
    cases (f.Free.any fun x=>p.ASN==x)<;>rfl
   simp
  rw[Y1]
  rfl
 refine (hl _).trans ?_
 dsimp only
 show AB (τ:=List Int) (fun k59=>if b5 r=true then _ else _) _=_
 rw[NY (by omega),NY (by omega),NY (by omega)]
 obtain⟨⟨c,d⟩,e,he⟩:=OW (n:=p.ASN) (a:=r.JAG)
 rw[e,AA]
 dsimp only at he ⊢
 have e8:(d==30)=b8 p r:=he
 rw[e8,NY (by omega)]
theorem bG {f:JAI}{r:JAK}:IP f r=some (b11 f r (Bf r.JAG)):=by
 unfold IP b11
 rw[AC,HB]
 have key :∀lo hi ho:Int,(if Bf r.JAG=true then some (decide (r.JAA.Len<ho)) else AB (τ:=Bool) (fun k6=>if decide (r.JAA.Len<lo)=true then k6 true else k6 (cond false true (decide (r.JAA.Len > hi)))) fun v7=>some v7)=some (cond (Bf r.JAG) (decide (r.JAA.Len<ho)) (!(decide (lo<=r.JAA.Len)&&decide (r.JAA.Len<=hi)))):=by
  intro lo hi ho
  cases Bf r.JAG
  ·rw[if_neg (by simp),AC]
   by_cases h1:r.JAA.Len<lo
   ·rw[if_pos (by simpa using h1),decide_eq_false (p:=lo<=r.JAA.Len) (by omega)];rfl
   rw[if_neg (by simpa using h1),decide_eq_true (p:=lo<=r.JAA.Len) (by omega)]
   by_cases h2:r.JAA.Len > hi
   ·rw[decide_eq_true h2,decide_eq_false (p:=r.JAA.Len<=hi) (by omega)];rfl
   rw[decide_eq_false h2,decide_eq_true (p:=r.JAA.Len<=hi) (by omega)];rfl
  rfl
 cases r.JAA.Addr.V6
 ·exact key _ _ _
 exact key _ _ _
theorem TJ {f:JAI}{p:JAO}{r:JAK}(hf:FOk f)(hp:p.Set.size<=maxLen)(hr:SmT r.JAG):H6 f p r=some (Is f p r):=by
 unfold H6 Is
 rw[cd hr,AA]
 cases hfo:F5 r
 ·rfl
 have hr:=VK hfo
 have hok:r.JAA.Addr.ok=true:=by
  unfold F5 at hfo
  rw[X27] at hfo
  exact ((I9 _).1 hfo.1).1
 have l0:([]:List Int).length<=0:=Nat.le_refl _
 have l1:=DY l0 (b1 p r) 2
 have l2:=DY l1 (b2 p r) 3
 have l3:=DY l2 (b3 f r) 4
 have l4:=DY l3 (b4 f r) 5
 have l5:=DY l4 (b5 r) 6
 have l6:=DY l5 (b6 f r) 7
 have l7:=DY l6 (b7 f p r) 8
 have l8:=DY l7 (b8 p r) 9
 have l9:=DY l8 (b9 f r) 10
 have l10:=DY l9 (b10 f r) 11
 have l11:=DY l10 (b11 f r (Bf r.JAG)) 12
 have l12:=DY l11 (b12 f p r (Bf r.JAG)) 13
 rw[if_neg (by simp),Yl hr,AA]
 refine (orJ (q:=fun x=>cov x r.JAA || cov r.JAA x) (fun x k=>Option.bind (BE x r.JAA) fun v9=>if (cond false true v9)=true then k true else Option.bind (BE r.JAA x) fun v10=>k (cond false true v10)) (fun x hx k=>?_) false).trans ?_
 ·rw[CM hok,CM (hf.l x hx),AA,AA]
  cases cov x r.JAA<;>rfl
 refine (orJ (q:=fun x=>cov x r.JAA) (fun x k=>Option.bind (BE x r.JAA) fun v19=>k (cond false true v19)) (fun x _ k=>?_) false).trans ?_
 ·rw[CM hok,AA];rfl
 show AB (τ:=List Int) (fun k22=>if b9 f r=true then _ else _) _=_
 rw[NY (by omega)]
 show AB (τ:=List Int) (fun k22=>if b10 f r=true then _ else _) _=_
 rw[NY (by omega),bG,AA,NY (by omega),HB,AA]
 have hw :∀(K:List JAB×List JAB->Option (List Int)),AB (τ:=(List JAB)×(List JAB)) (fun k33=>if Bf r.JAG=true then Option.bind (EA f.JAD.Objects) fun v34=>Option.bind (EA f.Origins) fun v35=>k33 (v35,v34) else k33 (f.Origins,f.JAD.Objects)) K=K (wdI (Bf r.JAG) f.Origins,wdI (Bf r.JAG) f.JAD.Objects):=by
  intro K
  rw[AC]
  cases Bf r.JAG
  ·rfl
  rw[if_pos rfl,IR hf.o,AA,IR hf.r,AA];rfl
 refine (hw _).trans ?_
 dsimp only
 rw[KJ (by have:=hr.p;omega) (by have:=hr.t;omega),AA]
 have ho :∀(K:Int->Option (List Int)),(match Gj r.JAG.Path with | (v38,v39)=>AB (τ:=Int) (fun k40=>if (!v39)=true then k40 (-1) else k40 v38) K)=K (M6 r.JAG.Path):=by
  intro K
  unfold M6
  generalize Gj r.JAG.Path=q
  obtain⟨u,v⟩:=q
  dsimp only
  rw[AC]
  cases v<;>rfl
 refine (ho _).trans ?_
 rw[(N1 (r:=(⟨f.JAD.Sets,wdI (Bf r.JAG) f.JAD.Objects⟩:JAD)) hf.s hp).2,AA]
 show AB (τ:=List Int) (fun k22=>if b12 f p r (Bf r.JAG)=true then _ else _) _=_
 rw[NY (by omega),RQ (by rw[XH];exact hf.r) hok,AA]
 show AB (τ:=List Int) (fun k22=>if b13 f r (Bf r.JAG)=true then _ else _) _=_
 rw[NY (by omega)]
 show some _=some (fs (C3 f p r))
 unfold C3
 simp only[fs,List.append_assoc,List.nil_append,List.append_nil]
theorem VF {f:JAI}{p:JAO}{r:JAK}(hf:FOk f)(hp:p.Set.size<=maxLen)(hr:SmT r.JAG):HY f p r=some (chE f p r):=by
 unfold HY chE
 rw[TJ hf hp hr,AA]
 cases Is f p r with
 | nil=>rfl
 | cons x t=>rw[if_pos (by simp),IE,AA];rfl
theorem dY {ρ:Type}{a b:Bool}{K:Bool->Option ρ}:AB (τ:=Bool) (fun k=>if a=true then k true else k (cond false true b)) K=K (a || b):=by
 rw[AC];cases a<;>rfl
theorem bW {ρ:Type}{a b c:Bool}{K:Bool->Option ρ}:AB (τ:=Bool) (fun k=>if a=true then k true else if (cond false true b)=true then k true else k (cond false true c)) K=K (a || (b || c)):=by
 rw[AC];cases a<;>cases b<;>rfl
theorem eG {ρ:Type}{a b c d e g:Bool}{K:Bool->Option ρ}:AB (τ:=Bool) (fun k=>if a=true then k true else if (cond false true b)=true then k true else if (cond false true c)=true then k true else if (cond false true d)=true then k true else if (cond false true e)=true then k true else k (cond false true g)) K=K (a || (b || (c || (d || (e || g))))):=by
 rw[AC]
 cases a
 ·cases b
  ·cases c
   ·cases d
    ·cases e<;>rfl
    rfl
   rfl
  rfl
 rfl
theorem fQ {ρ:Type}{a b c d e g h i j:Bool}{K:Bool->Option ρ}:AB (τ:=Bool) (fun k=>if a=true then k true else if (cond false true b)=true then k true else if (cond false true c)=true then k true else if (cond false true d)=true then k true else if (cond false true e)=true then k true else if (cond false true g)=true then k true else if (cond false true h)=true then k true else if (cond false true i)=true then k true else k (cond false true j)) K=K (a || (b || (c || (d || (e || (g || (h || (i || j)))))))):=by
 rw[AC]
 cases a
 ·cases b
  ·cases c
   ·cases d
    ·cases e
     ·cases g
      ·cases h
       ·cases i<;>rfl
       rfl
      rfl
     rfl
    rfl
   rfl
  rfl
 rfl
theorem bM {ρ:Type}{a b c d e g:Bool}{K:Bool->Option ρ}:AB (τ:=Bool) (fun k=>if a=true then if (cond true b false)=true then if (cond true c false)=true then if (cond true d false)=true then if (cond true e false)=true then k (cond true g false) else k false else k false else k false else k false else k false) K=K (a&&(b&&(c&&(d&&(e&&g))))):=by
 rw[AC]
 cases a
 ·rfl
 cases b
 ·rfl
 cases c
 ·rfl
 cases d
 ·rfl
 cases e<;>rfl
theorem cu {ρ:Type}{a b c d e g h i:Bool}{K:Bool->Option ρ}:AB (τ:=Bool) (fun k=>if a=true then if (cond true b false)=true then if (cond true c false)=true then if (cond true d false)=true then if (cond true e false)=true then if (cond true g false)=true then if (cond true h false)=true then k (cond true i false) else k false else k false else k false else k false else k false else k false else k false) K=K (a&&(b&&(c&&(d&&(e&&(g&&(h&&i))))))):=by
 rw[AC]
 cases a
 ·rfl
 cases b
 ·rfl
 cases c
 ·rfl
 cases d
 ·rfl
 cases e
 ·rfl
 cases g
 ·rfl
 cases h<;>rfl
def spB (s:JAN):Bool:=!(decide (s.From<0) || (decide (s.From > s.To) || decide (s.To > 4294967295)))
def Wp (o:JAB):Bool:=DN o.JAA&&((decide (o.JAA.Len<=o.Max)&&decide (o.Max<=cond o.JAA.Addr.V6 128 32))&&(decide (0<=o.ASN)&&decide (o.ASN<=4294967295)))
theorem OR {α:Type}{l:List α}{q:α->Bool}:(l.any fun x=>!q x)=!l.all q:=by
 rw[X28]
 simp
theorem fv1 (l:List JAA):AQ l=some (!l.all DN):=by
 unfold AQ Ap
 rw[<- OR]
 exact LW (f:=FN) fun x _=>by unfold FN;rw[E1,AA]
theorem fv2 (l:List JAN):Ag l=some (!l.all spB):=by
 unfold Ag Az
 rw[<- OR]
 exact LW (f:=FP) fun x _=>by unfold FP spB;rw[bW,Bool.not_not]
theorem fv3 (l:List Int):Aw l=some (!l.all B8):=by
 unfold Aw BD
 rw[<- OR]
 exact LW (f:=FD) fun x _=>by unfold FD;rw[G9,AA];rfl
theorem fv4 (l:List JAB):Ab l=some (!l.all Wp):=by
 unfold Ab Ao
 rw[<- OR]
 refine LW (f:=FI) fun x _=>?_
 unfold FI Wp
 simp only[E1,Si,G9,AA]
 rw[bW,<- Bool.not_and,<- Bool.not_and]
theorem fv5 (l:List Addr):Ad l=some (!l.all Addr.ok):=by
 unfold Ad An
 rw[<- OR]
 exact LW (f:=Dn) fun x _=>by unfold Dn;rw[Iw,AA]
theorem Z8 (l:List JAA)(n:Int):H7 l n=some (l.all DN&&decide ((l.length:Int)<=n)):=by
 unfold H7
 rw[AC]
 refine (SY (g:=DN) (r0:=some false) fun next x i _=>?_).trans ?_
 ·rw[EU,AA]
  cases DN x<;>rfl
 cases l.all DN<;>rfl
theorem Vq (n:Int):IA n=some (B8 n):=number_eq n
def au (f:JAI):Bool:=
 !(!B8 f.Own || (decide ((f.LANs.length:Int) > 8) || (decide ((f.Bogons.length:Int) > 64) || (decide ((f.Private.length:Int) > 64) || (decide ((f.Free.length:Int) > 64) || decide ((f.Origins.length:Int) > 512)))))) &&(!(decide (f.Min4<0) || (decide (f.Min4 > f.Max4) || (decide (f.Max4 > 32) || (decide (f.Min6<0) || (decide (f.Min6 > f.Max6) || (decide (f.Max6 > 128) || (!(decide (0<=f.Hole4)&&decide (f.Hole4<=32)) || (!(decide (0<=f.Hole6)&&decide (f.Hole6<=128)) || !(decide (1<=f.Hops)&&decide (f.Hops<=60)))))))))) &&(!(!f.LANs.all DN || !f.Bogons.all DN)&&(!(!f.Private.all spB || !f.Free.all B8)&&(f.Origins.all Wp&&Fq f.JAD))))
theorem QI {f:JAI}(hz :∀s∈f.JAD.Sets,GM s):Fe f=some (au f):=by
 unfold Fe au
 simp only[G9,fv1,fv2,fv3,fv4,Gm hz,AA]
 rw[eG,fQ,dY,dY,AC]
 show (if (!B8 f.Own || _)=true then _ else _)=_
 generalize (!B8 f.Own || (decide ((f.LANs.length:Int) > 8) || (decide ((f.Bogons.length:Int) > 64) || (decide ((f.Private.length:Int) > 64) || (decide ((f.Free.length:Int) > 64) || decide ((f.Origins.length:Int) > 512))))))=a
 generalize (decide (f.Min4<0) || (decide (f.Min4 > f.Max4) || (decide (f.Max4 > 32) || (decide (f.Min6<0) || (decide (f.Min6 > f.Max6) || (decide (f.Max6 > 128) || (!(decide (0<=f.Hole4)&&decide (f.Hole4<=32)) || (!(decide (0<=f.Hole6)&&decide (f.Hole6<=128)) || !(decide (1<=f.Hops)&&decide (f.Hops<=60))))))))))=b
 generalize (!f.LANs.all DN || !f.Bogons.all DN)=c
 generalize (!f.Private.all spB || !f.Free.all B8)=d
 generalize f.Origins.all Wp=e
 cases a
 ·cases b
  ·cases c
   ·cases d
    ·cases e<;>rfl
    rfl
   rfl
  rfl
 rfl
theorem QZ {a b:Int}:decide (a<=b)=!decide (a > b):=by
 by_cases h:a<=b
 ·rw[decide_eq_true h,decide_eq_false (by omega)];rfl
 rw[decide_eq_false h,decide_eq_true (by omega)];rfl
theorem WJ {a b:Int}:decide (a<b)=!decide (b<=a):=by
 by_cases h:a<b
 ·rw[decide_eq_true h,decide_eq_false (by omega)];rfl
 rw[decide_eq_false h,decide_eq_true (by omega)];rfl
theorem Qm {f:JAI}(hz :∀s∈f.JAD.Sets,GM s):HN f=some (au f):=by
 unfold HN
 simp only[Vq,Z8,Gs hz,AA]
 rw[eG,AC,bM,cu]
 have hA:(!B8 f.Own || (!(f.LANs.all DN&&decide ((f.LANs.length:Int)<=8)) || (!(f.Bogons.all DN&&decide ((f.Bogons.length:Int)<=64)) || (decide ((f.Private.length:Int) > 64) || (decide ((f.Free.length:Int) > 64) || decide ((f.Origins.length:Int) > 512))))))=!(B8 f.Own&&((f.LANs.all DN&&decide ((f.LANs.length:Int)<=8))&&((f.Bogons.all DN&&decide ((f.Bogons.length:Int)<=64))&&(decide ((f.Private.length:Int)<=64)&&(decide ((f.Free.length:Int)<=64)&&decide ((f.Origins.length:Int)<=512)))))):=by
  simp only[Bool.not_and,QZ (a:=(f.Private.length:Int)),QZ (a:=(f.Free.length:Int)),QZ (a:=(f.Origins.length:Int)),Bool.not_not]
 have hP :∀{K:Unit->Option Bool},Aa (σ:=Unit) (fun _=>K ()) (fun next7 (x8:JAN) i9 _=>AB (τ:=Bool) (fun k10=>if (decide (x8.From<0))=true then k10 true else if (cond false true (decide (x8.From > x8.To)))=true then k10 true else k10 (cond false true (decide (x8.To > 4294967295)))) fun v11=>if v11=true then some false else next7 ()) f.Private 0 ()=cond (f.Private.all spB) (K ()) (some false):=by
  intro K
  refine SY (g:=spB) (r0:=some false) fun next x i _=>?_
  rw[bW]
  unfold spB
  generalize (decide (x.From<0) || (decide (x.From > x.To) || decide (x.To > 4294967295)))=a
  cases a<;>rfl
 have hF :∀{K:Unit->Option Bool},Aa (σ:=Unit) (fun _=>K ()) (fun next13 (x14:Int) i15 _=>if (!B8 x14)=true then some false else next13 ()) f.Free 0 ()=cond (f.Free.all B8) (K ()) (some false):=by
  intro K
  refine SY (g:=B8) (r0:=some false) fun next x i _=>?_
  cases B8 x<;>rfl
 have hO :∀{kx:Option Bool},Aa (σ:=Unit) (fun _=>kx) (fun next18 (x19:JAB) i20 _=>AB (τ:=Bool) (fun k21=>Option.bind (BL x19.JAA) fun v22=>if (!v22)=true then k21 true else if (cond false true (decide (x19.Max<x19.JAA.Len)))=true then k21 true else Option.bind (EB x19.JAA.Addr.V6) fun v23=>if (cond false true (decide (x19.Max > v23)))=true then k21 true else if (cond false true (decide (x19.ASN<0)))=true then k21 true else k21 (cond false true (decide (x19.ASN > 4294967295)))) fun v24=>if v24=true then some false else next18 ()) f.Origins 0 ()=cond (f.Origins.all Wp) kx (some false):=by
  intro kx
  refine SY (K:=fun _=>kx) (g:=Wp) (r0:=some false) fun next x i _=>?_
  rw[AC,EU,AA,O6,AA]
  unfold Wp
  rw[QZ (a:=x.Max),QZ (a:=x.ASN),WJ (a:=x.Max),WJ (a:=x.ASN)]
  generalize decide (x.JAA.Len<=x.Max)=a
  generalize decide (x.Max > cond x.JAA.Addr.V6 128 32)=b
  generalize decide (0<=x.ASN)=c
  generalize decide (x.ASN > 4294967295)=d
  cases DN x.JAA
  ·rfl
  cases a
  ·rfl
  cases b
  ·cases c
   ·rfl
   cases d<;>rfl
  rfl
 simp only[AC] at hP hO ⊢
 rw[hP,hF]
 simp only[EU,O6,AA] at hO ⊢
 rw[hO,hA]
 unfold au
 simp only[ge_iff_le,gt_iff_lt,Bool.not_or,Bool.not_not]
 generalize hg:(B8 f.Own&&((f.LANs.all DN&&decide ((f.LANs.length:Int)<=8))&&((f.Bogons.all DN&&decide ((f.Bogons.length:Int)<=64))&&(decide ((f.Private.length:Int)<=64)&&(decide ((f.Free.length:Int)<=64)&&decide ((f.Origins.length:Int)<=512))))))=g
 have fin :∀{p q o n r:Bool},(if (!g)=true then some false else cond p (cond q (cond o (some (n&&r)) (some false)) (some false)) (some false))=some (g&&(p&&(q&&(o&&(n&&r))))):=by
  intro p q o n r
  cases g
  ·rfl
  cases p
  ·rfl
  cases q
  ·rfl
  cases o<;>rfl
 refine fin.trans ?_
 rw[<- hg]
 simp only[WJ,Bool.not_not]
 congr 1
 ac_rfl
theorem TW (p:JAO):ET p=some (B8 p.ASN&&((decide (0<=p.Max4)&&decide (p.Max4<=256))&&((decide (0<=p.Max6)&&decide (p.Max6<=256))&&(decide ((p.Nexts.length:Int)<=8)&&p.Nexts.all Addr.ok)))):=by
 unfold ET
 simp only[G9,fv5,AA,Bool.not_not]
 rw[AC]
 show (if B8 p.ASN=true then _ else _)=_
 generalize (decide (0<=p.Max4)&&decide (p.Max4<=256))=a
 generalize (decide (0<=p.Max6)&&decide (p.Max6<=256))=b
 generalize decide ((p.Nexts.length:Int)<=8)=c
 cases B8 p.ASN
 ·rfl
 cases a
 ·rfl
 cases b
 ·rfl
 cases c<;>rfl
theorem M3 (p:JAO):Es p=some (B8 p.ASN&&((decide (0<=p.Max4)&&decide (p.Max4<=256))&&((decide (0<=p.Max6)&&decide (p.Max6<=256))&&(decide ((p.Nexts.length:Int)<=8)&&p.Nexts.all Addr.ok)))):=by
 unfold Es
 rw[AC]
 refine (SY (g:=Addr.ok) (r0:=some false) fun next x i _=>?_).trans ?_
 ·rw[FB,AA]
  cases x.ok<;>rfl
 simp only[Vq,AA]
 rw[bM]
 simp only[ge_iff_le]
 generalize decide (0<=p.Max4)=a
 generalize decide (p.Max4<=256)=b
 generalize decide (0<=p.Max6)=c
 generalize decide (p.Max6<=256)=d
 generalize decide ((p.Nexts.length:Int)<=8)=e
 generalize p.Nexts.all Addr.ok=g
 cases B8 p.ASN
 ·cases g<;>rfl
 cases a<;>cases b<;>cases c<;>cases d<;>cases e<;>cases g<;>rfl
def bN:List Set:=[⟨dj,[101,102,103,104,105,201,202,203,301],[]⟩,⟨eA,[201],[]⟩]
theorem ZA:MB [] bN=true:=by kernel_rfl
theorem MF.reg {f:JAI}(h:MF f):Fq f.JAD=true:=by
 have hs:f.JAD.Sets=bN:=h.sets
 unfold Fq
 rw[hs,ZA,Bool.true_and,decide_eq_true (by decide),Bool.and_true,decide_eq_true (by have:=h.objs.1;omega),Bool.and_true,List.all_eq_true]
 intro o ho
 obtain⟨⟨g1,g2,g3,g4⟩,g5⟩:=h.objs.2 o ho
 unfold Me
 rw[X27,X27,X27]
 refine⟨⟨⟨(I9 _).2 g1.good,?_⟩,?_⟩,?_⟩
 ·rw[decide_eq_true_eq]
  rcases g1.2 with ⟨p1,p2⟩|⟨p1,p2⟩<;>rcases g2 with ⟨q1,q2⟩|⟨q1,q2⟩
  ·omega
  ·rw[p2] at q2;cases q2
  ·rw[p2] at q2;cases q2
  omega
 ·rw[decide_eq_true_eq]
  unfold Addr.w
  rcases g2 with ⟨q1,q2⟩|⟨q1,q2⟩<;>rw[q1,q2]<;>decide
 unfold B8
 rw[decide_eq_true (by omega),decide_eq_true (by omega)];rfl
theorem RL {r:JAD}(h:Fq r=true) :∀s∈r.Sets,GM s:=fun s hs=>X3 ((OE.1 h).1.2 s hs)
theorem MF.fok {f:JAI}(h:MF f):FOk f:=by
 refine⟨RL h.reg,by have:=h.objs.1;omega,by have:=h.orig.1;omega,fun x hx=>?_⟩
 rw[h.lans] at hx
 simp only[List.mem_cons,List.not_mem_nil,or_false] at hx
 subst hx
 show Addr.ok _=true
 kernel_rfl
theorem FS {n:Nat}(h:n<=4):n<=maxLen:=Nat.le_trans h (by decide)
theorem Pq (a b:List Int):Eg a b=some (decide (a=b)):=by
 unfold Eg
 exact eqR (e:=fun v x:Int=>x != v) fun x y=>by
  by_cases h:x=y
  ·subst h;simp
  rw[decide_eq_false h]
  have:y≠x:=fun e=>h e.symm
  simpa using this
theorem MW (a:JAG) :∃b,FC a=some b:=by
 have h:Ok (FC a) fun _=>True:=by
  unfold FC
  refine .join (fun _=>True) (fun k hk=>.for_ (fun s=>hk s trivial) fun next x i s _ _ hn=>hn _) fun _ _=>?_
  exact .join (fun _=>True) (fun k hk=>.for_ (fun s=>hk s trivial) fun next x i s _ _ hn=>hn _) fun _ _=>.ret trivial
 obtain⟨b,e,_⟩:=h
 exact⟨b,e⟩
theorem RS {l:List Int}(h:l.length<=maxLen):Dk ⟨l,0⟩:=⟨Int.le_refl _,Nat.le_trans h (by decide)⟩
theorem cP {r:JAK}{l:List Int}(hr:SmT r.JAG)(hl:l.length<=maxLen):Cc r l=some true:=by
 suffices h:Ok (Cc r l) fun b=>b=true by
  obtain⟨b,e,rfl⟩:=h
  exact e
 unfold Cc
 obtain⟨b,hb⟩:=MW r.JAG
 rw[hb,AA,LA,AA]
 refine .ite (fun _=>.ret rfl) fun _=>?_
 unfold E2
 rw[AA]
 refine .bind (FU (RS hl)) ?_
 rintro⟨f,d⟩ ⟨hf,hd⟩
 dsimp only at hf hd ⊢
 refine .bind (Ac hd (by omega)) ?_
 rintro⟨n,d⟩ ⟨n1,n2,hd⟩
 dsimp only at n1 n2 hd ⊢
 rw[A3 (by omega)]
 refine .bind (Nv hd (by omega)) ?_
 rintro⟨p,d⟩ ⟨⟨p1,p2,p3⟩,hd⟩
 dsimp only at p1 p2 p3 hd ⊢
 refine .join (fun _=>True) (fun k hk=>?_) fun _ _=>.ret rfl
 refine .whileI (fun s:Int×JAL=>0<=s.1/\s.1<=7/\Dk s.2) (fun s=>(7-s.1).toNat) ⟨by simp,by simp,hd⟩ (EJ (by simp only;omega)) ?_
 rintro next ⟨i,d⟩ ⟨i1,i2,hd⟩ hnx
 dsimp only at i1 i2 hd ⊢
 refine .ite (fun hc=>?_) fun _=>hk _ trivial
 simp only[decide_eq_true_eq] at hc
 refine .bind (LX hd) ?_
 rintro⟨q,d⟩ ⟨⟨q1,q2⟩,hd⟩
 dsimp only at q1 q2 hd ⊢
 refine .join (fun x:JAK=>SmT x.JAG) (fun k2 hk2=>.ite (fun _=>hk2 _ hr) fun _=>hk2 _ q2.smt) fun x hx=>?_
 rw[RZ hf.fok (FS p2) hx,VF hf.fok (FS p2) hx,Tm hf.fok (FS p2) hx,TJ hf.fok (FS p2) hx]
 simp only[AA,Pq]
 refine .join (fun b=>b=false) (fun k3 hk3=>.ite (fun h=>absurd h (by simp)) fun _=>hk3 _ (by simp)) fun b hb=>?_
 rw[hb,if_neg (by simp),A3 (by omega)]
 exact hnx _ ⟨by dsimp only;omega,by dsimp only;omega,hd⟩ (by dsimp only;omega)
theorem WT :∀l:List (Int×Bool),(fs l).Sublist (l.map (·.1))
 | []=>.slnil
 | (k,b)::t=>by
  show (ad b k++fs t).Sublist (k::t.map (·.1))
  cases b
  ·exact (WT t).cons _
  exact (WT t).cons_cons _
theorem Xw (f:JAI)(p:JAO)(r:JAK):(Is f p r).Pairwise (·<·)/\∀x∈Is f p r,1<=x/\x<=14:=by
 unfold Is
 cases F5 r
 ·exact⟨by simp,by simp⟩
 have h:=WT (C3 f p r)
 have e:(C3 f p r).map (·.1)=[2,3,4,5,6,7,8,9,10,11,12,13,14]:=rfl
 rw[e] at h
 refine⟨List.Pairwise.sublist h (by decide),fun x hx=>?_⟩
 have:=h.subset hx
 simp only[List.mem_cons,List.not_mem_nil,or_false] at this
 omega
theorem first {r:JAK}{l:List Int}(hr:SmT r.JAG)(hl:l.length<=maxLen):DC r l=some true:=by
 suffices h:Ok (DC r l) fun b=>b=true by
  obtain⟨b,e,rfl⟩:=h
  exact e
 unfold DC
 obtain⟨b,hb⟩:=MW r.JAG
 rw[hb,AA,LA,AA]
 refine .ite (fun _=>.ret rfl) fun _=>?_
 unfold E2
 rw[AA]
 refine .bind (FU (RS hl)) ?_
 rintro⟨f,d⟩ ⟨hf,hd⟩
 dsimp only at hf hd ⊢
 refine .bind (Ac hd (by omega)) ?_
 rintro⟨n,d⟩ ⟨n1,n2,hd⟩
 dsimp only at n1 n2 hd ⊢
 rw[A3 (by omega)]
 refine .bind (Nv hd (by omega)) ?_
 rintro⟨p,d⟩ ⟨⟨p1,p2,p3⟩,hd⟩
 dsimp only at p1 p2 p3 hd ⊢
 refine .bind (LX hd) ?_
 rintro⟨q,d⟩ ⟨⟨q1,q2⟩,hd⟩
 dsimp only at q1 q2 hd ⊢
 refine .bind (LX hd) ?_
 rintro⟨q',d⟩ ⟨⟨q3,q4⟩,hd⟩
 dsimp only at q3 q4 hd ⊢
 refine .join (fun _=>True) (fun k hk=>?_) fun _ _=>.ret rfl
 refine .for_ (fun _=>hk _ trivial) fun next x i s _ hx hnx=>?_
 have hx':SmT x.JAG:=by
  simp only[List.mem_cons,List.not_mem_nil,or_false] at hx
  rcases hx with rfl | rfl | rfl
  ·exact hr
  ·exact q2.smt
  exact q4.smt
 refine .join (fun _=>True) (fun k2 hk2=>?_) fun _ _=>hnx _
 rw[RZ hf.fok (FS p2) hx',Tm hf.fok (FS p2) hx',AA,AA]
 obtain⟨g1,g2⟩:=Xw f p x
 unfold chE
 generalize Is f p x=L at g1 g2
 have hL:L.length<=14:=by
  have:=ID (m:=[1,2,3,4,5,6,7,8,9,10,11,12,13,14]) (g1.imp fun h=>by omega) fun x hx=>by
   have:=g2 x hx
   simp only[List.mem_cons,List.not_mem_nil,or_false]
   omega
  simpa using this
 refine .join (fun b=>b=false) (fun k3 hk3=>?_) fun b hb=>?_
 ·cases L with
  | nil=>
   rw[if_neg (by decide),if_neg (by decide)]
   exact hk3 _ rfl
  | cons y t=>
   have hy:=g2 y (by simp)
   have e1:((List.headD (y::t) 0==0)==((((y::t).length:Nat):Int)==0))=true:=by
    rw[NE]
    show ((y==0)==false)=true
    have:(y==0)=false:=by simp only[beq_eq_false_iff_ne,ne_eq];omega
    rw[this];rfl
   rw[e1,if_neg (by simp),if_pos (by simp),IE,AA]
   exact hk3 _ (by simp)
 rw[hb,if_neg (by simp)]
 refine .join (fun _=>True) (fun k4 hk4=>?_) fun _ _=>hk2 _ trivial
 refine .forX (fun _ _=>True) trivial (fun _ _=>hk4 _ trivial) fun next2 y j s hy _ hn2=>?_
 have hj:=(X16.1 hy).1
 have hy2:=g2 y (List.mem_of_getElem? hy)
 refine .join (fun b=>b=false) (fun k5 hk5=>?_) fun b hb=>?_
 ·rw[if_neg (by simp;omega),if_neg (by simp;omega)]
  refine .ite (fun h0=>?_) fun _=>hk5 _ rfl
  simp only[decide_eq_true_eq] at h0
  obtain⟨m,rfl⟩ :∃m,j=m+1:=⟨j-1,by omega⟩
  rw[A3 (by omega),show (((m+1:Nat):Int)-1)=(m:Int) by omega,C7 (by omega),AA]
  refine hk5 _ ?_
  have hlt:=List.pairwise_iff_getElem.1 g1 m (m+1) (by omega) hj (by omega)
  rw[X15 hj,X24] at hy
  rw[hy] at hlt
  have:decide (L[m] ≥ y)=false:=by simp;omega
  rw[this];rfl
 rw[hb,if_neg (by simp)]
 exact hn2 _ trivial
theorem all_nil {f:JAI}{p:JAO}{r:JAK}(h:chE f p r=0):F5 r=true/\b1 p r=false/\b2 p r=false/\b4 f r=false/\b8 p r=false/\b9 f r=false/\b12 f p r (Bf r.JAG)=false:=by
 have hn:Is f p r=[]:=by
  obtain⟨_,h2⟩:=Xw f p r
  unfold chE at h
  cases he:Is f p r with
  | nil=>rfl
  | cons x t=>
   rw[he] at h h2
   have:=h2 x (by simp)
   have h':x=0:=h
   omega
 unfold Is at hn
 cases hf:F5 r
 ·rw[hf] at hn;cases hn
 rw[hf] at hn
 have hn':fs (C3 f p r)=[]:=hn
 unfold C3 at hn'
 simp only[fs,List.append_eq_nil_iff] at hn'
 have ad0 :∀{b:Bool} {n:Int},ad b n=[]->b=false:=by
  intro b n h
  cases b
  ·rfl
  cases h
 obtain⟨h1,h2,h3,h4,h5,h6,h7,h8,h9,h10,h11,h12,h13,_⟩:=hn'
 exact⟨rfl,ad0 h1,ad0 h2,ad0 h4,ad0 h8,ad0 h9,ad0 h12⟩
theorem Um {f:JAI}(hg:Fq f.JAD=true)(h:Bool):Fq (Rn f h)=true:=by
 unfold Rn wdI
 cases h
 ·exact hg
 unfold Fq at hg ⊢
 simp only[X27,decide_eq_true_eq,List.all_eq_true] at hg ⊢
 refine⟨⟨⟨hg.1.1.1,fun x hx=>?_⟩,hg.1.2⟩,?_⟩
 ·obtain⟨y,hy,rfl⟩:=List.mem_map.1 hx
  have g:=hg.1.1.2 y hy
  unfold Me at g ⊢
  simp only[X27,decide_eq_true_eq] at g ⊢
  have hw:((y.JAA.Addr.w:Nat):Int)=cond y.JAA.Addr.V6 128 32:=by unfold Addr.w;cases y.JAA.Addr.V6<;>rfl
  refine⟨⟨⟨g.1.1.1,?_⟩,?_⟩,g.2⟩
  ·show y.JAA.Len<=cond y.JAA.Addr.V6 128 32
   rw[<- hw]
   have:=g.1.1.2
   have:=g.1.2
   omega
  show cond y.JAA.Addr.V6 128 32<=((y.JAA.Addr.w:Nat):Int)
  rw[hw]
  exact Int.le_refl _
 show (f.JAD.Objects.map wd).length<=512
 rw[X10];exact hg.2
theorem Xo {f:JAI}{h:Bool}(hs :∀s∈f.JAD.Sets,GM s) :∀s∈(Rn f h).Sets,GM s:=hs
theorem af {l:List Int}(hl:l.length<=maxLen):CE l=some true:=by
 suffices h:Ok (CE l) fun b=>b=true by
  obtain⟨b,e,rfl⟩:=h
  exact e
 unfold CE E2
 rw[AA]
 refine .bind (FU (RS hl)) ?_
 rintro⟨f,d⟩ ⟨hf,hd⟩
 dsimp only at hf hd ⊢
 refine .bind (Ac hd (by omega)) ?_
 rintro⟨n,d⟩ ⟨n1,n2,hd⟩
 dsimp only at n1 n2 hd ⊢
 rw[A3 (by omega)]
 refine .bind (Nv hd (by omega)) ?_
 rintro⟨p,d⟩ ⟨⟨p1,p2,p3⟩,hd⟩
 dsimp only at p1 p2 p3 hd ⊢
 refine .join (fun _=>True) (fun k hk=>?_) fun _ _=>by rw[LA,AA];exact .ret rfl
 refine .whileI (fun s:Int×JAL=>0<=s.1/\s.1<=5/\Dk s.2) (fun s=>(5-s.1).toNat) ⟨by simp,by simp,hd⟩ (EJ (by simp only;omega)) ?_
 rintro next ⟨i,d⟩ ⟨i1,i2,hd⟩ hnx
 dsimp only at i1 i2 hd ⊢
 refine .ite (fun hc=>?_) fun _=>hk _ trivial
 simp only[decide_eq_true_eq] at hc
 refine .join (fun d:JAL=>Dk d) (fun k2 hk2=>?_) fun d hd=>by
  rw[A3 (by omega)]
  exact hnx _ ⟨by dsimp only;omega,by dsimp only;omega,hd⟩ (by dsimp only;omega)
 refine .bind (LX hd) ?_
 rintro⟨r,d⟩ ⟨⟨q1,q2⟩,hd⟩
 dsimp only at q1 q2 hd ⊢
 have hr:=q2.smt
 rw[RZ hf.fok (FS p2) hr,AA]
 refine .ite (fun _=>hk2 _ hd) fun h0=>?_
 have h0:chE f p r=0:=by simpa using h0
 obtain⟨hfo,c1,c2,c4,c8,c9,c12⟩:=all_nil h0
 have hr:=q2.sms
 have hnum:B8 p.ASN=true:=by
  unfold B8
  rw[p1,decide_eq_true (by omega),decide_eq_true (by omega)];rfl
 have hok:r.JAA.Addr.ok=true:=q1.1
 rw[Kv (by have:=hr.p;omega) (by have:=hr.t;omega),AA]
 obtain⟨u,v,hq⟩ :∃u v,K0 r.JAG.Path=(u,v):=⟨_,_,rfl⟩
 unfold b1 at c1
 rw[hq] at c1 ⊢
 dsimp only at c1 ⊢
 rw[KJ (by have:=hr.p;omega) (by have:=hr.t;omega),AA]
 obtain⟨o,w,ho⟩ :∃u v,Gj r.JAG.Path=(u,v):=⟨_,_,rfl⟩
 have hperm:JM (Rn f (Bf r.JAG)).Objects r.JAA (M6 r.JAG.Path)=true:=by
  unfold b12 at c12
  have c12:Kt (Rn f (Bf r.JAG)) p.ASN p.Set r.JAA (M6 r.JAG.Path)=0:=by simpa using c12
  exact XD (Xo hf.fok.s) (FS p2) (Um hf.reg _) c12
 obtain⟨x,hx,hxp⟩ :∃x∈f.JAD.Objects,x.ASN=M6 r.JAG.Path/\cov x.JAA r.JAA=true/\(r.JAA.Len<=x.Max\/Bf r.JAG=true):=by
  unfold JM at hperm
  rw[List.any_eq_true] at hperm
  obtain⟨y,hy,hp⟩:=hperm
  unfold pc at hp
  simp only[X27,beq_iff_eq,decide_eq_true_eq] at hp
  unfold Rn wdI at hy
  cases hh:Bf r.JAG
  ·rw[hh] at hy
   exact⟨y,hy,hp.1.1,hp.1.2,.inl hp.2⟩
  rw[hh] at hy
  obtain⟨z,hz,rfl⟩:=List.mem_map.1 hy
  exact⟨z,hz,hp.1.1,hp.1.2,.inr rfl⟩
 have hw1:w=true/\x.ASN=o:=by
  have h1:=(hf.objs.2 x hx).2
  have h2:=hxp.1
  unfold M6 at h2
  rw[ho] at h2
  cases w
  ·have:x.ASN=-1:=h2
   omega
  exact⟨rfl,h2⟩
 rw[ho]
 dsimp only
 refine .join (fun b=>b=true) (fun k3 hk3=>?_) fun b hb=>?_
 ·have h:=orJ (l:=p.Nexts) (q:=fun x=>Addr.eqd x r.JAG.Next) (fun x k=>k (cond false true (Addr.eqd x r.JAG.Next))) (K:=k3) (fun _ _ _=>rfl) false
  rw[AC] at h
  refine (Eq.symm h) ▸ hk3 _ ?_
  unfold b2 at c2
  rw[Bool.false_or,<- LZ TD]
  simpa using c2
 subst hb
 refine .join (fun b=>b=true) (fun k3 hk3=>?_) fun b hb=>?_
 ·have h:=orJ (l:=f.JAD.Objects) (q:=fun y=>(y.ASN==o)&&(cov y.JAA r.JAA&&(decide (y.Max ≥ r.JAA.Len) || Bf r.JAG))) (fun x31 k33=>if (x31.ASN==o)=true then
           Option.bind (BE x31.JAA r.JAA) fun v34=>
           if (cond true v34 false)=true then
            if (decide (x31.Max ≥ r.JAA.Len))=true then
             k33 true
            else
             Option.bind (D9 r.JAG) fun v35=>
             k33 (cond false true (cond true (cond false true v35) false))
           else
            k33 false
          else
           k33 false) (K:=k3) (fun y _ k=>by
    rw[CM hok,Gf,AA,AA]
    cases (y.ASN==o)
    ·rfl
    cases cov y.JAA r.JAA
    ·rfl
    cases decide (y.Max ≥ r.JAA.Len)<;>rfl) false
  rw[AC] at h
  refine (Eq.symm h) ▸ hk3 _ ?_
  rw[Bool.false_or,List.any_eq_true]
  refine⟨x,hx,?_⟩
  rw[hxp.2.1,hw1.2]
  rcases hxp.2.2 with h | h
  ·rw[decide_eq_true h];simp
  rw[h];simp
 subst hb
 refine .join (fun b=>b=false) (fun k3 hk3=>?_) fun b hb=>?_
 ·rw[hw1.1,if_neg (by
   intro h
   rw[h] at c1
   cases c1),if_neg (by decide),if_neg (by
   have:(u != p.ASN)=false:=by
    cases v
    ·cases c1
    exact c1
   rw[this];decide),if_neg (by
   unfold b8 TB at c8
   rw[hnum,Bool.true_and] at c8
   rw[c8];decide),if_neg (by decide),if_neg (by decide),Nu (by have:=hr.t;omega),AA]
  unfold b4 at c4
  rw[c4]
  exact hk3 _ rfl
 subst hb
 rw[if_neg (by simp)]
 refine .join (fun _=>True) (fun k3 hk3=>?_) fun _ _=>hk2 _ hd
 refine .for_ (fun _=>hk3 _ trivial) fun next2 y j s _ hy hn2=>?_
 have hyo:=hf.fok.l y hy
 unfold b9 at c9
 rw[List.any_eq_false] at c9
 have:=c9 y hy
 rw[Bool.not_eq_true,Bool.or_eq_false_iff] at this
 rw[CM hok,CM hyo,this.1,this.2]
 refine .join (fun b=>b=false) (fun k4 hk4=>hk4 _ rfl) fun b hb=>?_
 rw[hb,if_neg (by simp)]
 exact hn2 _
def more (f:JAI)(o:JAB):JAI:={ f with JAD:=⟨f.JAD.Sets,f.JAD.Objects++[o]⟩ }
theorem Yk {f:JAI}{o:JAB}(h:MF f)(ho:Me o=true):Fq (more f o).JAD=true:=by
 have hg:=h.reg
 have hl:=h.objs.1
 unfold more
 unfold Fq at hg ⊢
 simp only[X27,decide_eq_true_eq,List.all_eq_true] at hg ⊢
 refine⟨⟨⟨hg.1.1.1,fun x hx=>?_⟩,hg.1.2⟩,?_⟩
 ·rcases X23.1 hx with hx | hx
  ·exact hg.1.1.2 x hx
  rw[X14] at hx
  rw[hx];exact ho
 rw[X11]
 show _+1<=512
 omega
def stM (s:Bool×List Int)(x:Int):Bool×List Int:=cond (x==13) (true,s.2) (s.1,s.2++[x])
theorem bQ {ρ:Type}{l:List Int}(hl:l.length<=1000){K:Bool×List Int->Option ρ} :
  AB (τ:=Bool×(List Int)) (fun k16=>Aa (σ:=Bool×(List Int)) (fun (v17,v18)=>k16 (v17,v18)) (fun next19 (x20:Int) i21 (v17,v18)=>
   AB (τ:=Bool×(List Int)) (fun k22=>if (x20==13)=true then k22 (true,v18) else Option.bind (apnd (α:=Int) 8 v18 ([x20]:List Int)) fun v23=>k22 (v17,v23)) fun (v24,v25)=>next19 (v24,v25)) l 0 (false,[])) K
   = K (l.any (·==13),l.filter (· != 13)):=by
 rw[AC]
 refine (TQ (K:=fun s:Bool×List Int=>K (s.1,s.2)) stM (fun n s=>s.2.length+n<=1000) (fun n s x h=>?_) l 0 (false,[]) (fun next x j s n _ h=>?_) (by simpa using hl)).trans ?_
 ·unfold stM
  cases (x==13)
  ·show (s.2++[x]).length+n<=1000
   rw[X11]
   show s.2.length+1+n<=1000
   omega
  show s.2.length+n<=1000
  omega
 ·obtain⟨a,b⟩:=s
  dsimp only at h ⊢
  rw[AC]
  unfold stM
  cases (x==13)
  ·rw[if_neg (by simp),BX (by decide) (by simp;omega),AA];rfl
  rfl
 have key :∀(l:List Int) (s:Bool×List Int),l.foldl stM s=(s.1 || l.any (·==13),s.2++l.filter (· != 13)):=by
  intro l
  induction l with
  | nil=>intro s;simp
  | cons x t ih=>
   intro s
   rw[List.foldl_cons,ih,List.any_cons,List.filter_cons]
   unfold stM
   rw[bne]
   cases (x==13)
   ·simp
   simp
 rw[key]
 rfl
theorem VX (f:JAI)(p:JAO)(r:JAK):(Is f p r).length<=1000:=by
 unfold Is
 cases F5 r
 ·show ([1]:List Int).length<=1000
  decide
 have:=Wv (C3 f p r)
 simp only[C3,X12,X13] at this
 show (fs (C3 f p r)).length<=1000
 unfold C3
 omega
theorem bE {b:Bool}:(ad b 13).filter (· != 13)=[]:=by cases b<;>rfl
theorem Hk {b:Bool}{n:Int}(h:(n==13)=false):(ad b n).any (·==13)=false:=by
 cases b
 ·rfl
 show ((n==13) || false)=false
 rw[h];rfl
theorem Zq {b:Bool}:(ad b 13).any (·==13)=b:=by cases b<;>rfl
theorem WO (f:JAI)(o:JAB)(p:JAO)(r:JAK):C3 (more f o) p r=[(2,b1 p r),(3,b2 p r),(4,b3 f r),(5,b4 f r),(6,b5 r),(7,b6 f r),(8,b7 f p r),(9,b8 p r),(10,b9 f r),(11,b10 f r),(12,b11 f r (Bf r.JAG)),(13,b12 (more f o) p r (Bf r.JAG)),(14,b13 f r (Bf r.JAG))]:=rfl
theorem X8 (f:JAI)(o:JAB)(p:JAO)(r:JAK):(Is f p r).filter (· != 13)=(Is (more f o) p r).filter (· != 13):=by
 unfold Is
 cases F5 r
 ·rfl
 show (fs (C3 f p r)).filter (· != 13)=(fs (C3 (more f o) p r)).filter (· != 13)
 rw[WO]
 unfold C3
 simp only[fs,List.filter_append,bE]
theorem VN (f:JAI)(p:JAO)(r:JAK):(Is f p r).any (·==13)=(F5 r&&b12 f p r (Bf r.JAG)):=by
 unfold Is
 cases F5 r
 ·rfl
 show (fs (C3 f p r)).any (·==13)=b12 f p r (Bf r.JAG)
 unfold C3
 simp only[fs,List.any_append,Zq,List.any_nil,Bool.or_false]
 rw[Hk rfl,Hk rfl,Hk rfl,Hk rfl,Hk rfl,Hk rfl,Hk rfl,Hk rfl,Hk rfl,Hk rfl,Hk rfl,Hk rfl]
 simp
theorem dh {l:List Int}{n:Int}(hl:l.length<=maxLen):Di l n=some true:=by
 suffices h:Ok (Di l n) fun b=>b=true by
  obtain⟨b,e,rfl⟩:=h
  exact e
 unfold Di E2
 rw[AA,LA]
 refine .bind (FU (RS hl)) ?_
 rintro⟨f,d⟩ ⟨hf,hd⟩
 dsimp only at hf hd ⊢
 refine .bind (Ac hd (by omega)) ?_
 rintro⟨m,d⟩ ⟨n1,n2,hd⟩
 dsimp only at n1 n2 hd ⊢
 rw[A3 (by omega)]
 refine .bind (Nv hd (by omega)) ?_
 rintro⟨p,d⟩ ⟨⟨p1,p2,p3⟩,hd⟩
 dsimp only at p1 p2 p3 hd ⊢
 refine .bind (LX hd) ?_
 rintro⟨r,d⟩ ⟨⟨q1,q2⟩,hd⟩
 dsimp only at q1 q2 hd ⊢
 refine .bind (LE hd) ?_
 rintro⟨x,d⟩ ⟨hx,hd⟩
 dsimp only at hx hd ⊢
 refine .bind (By (by omega)) fun w hw=>?_
 have hol:=hf.objs.1
 rw[A3 (by omega),BX (by decide) (by simp;omega),AA,BX (by decide) (by simp;omega),AA]
 have ho:Me ⟨x,x.Len,101+w⟩=true:=by
  unfold Me B8
  simp only[X27,decide_eq_true_eq]
  exact⟨⟨⟨(I9 _).2 hx,Int.le_refl _⟩,hx.2.2.1⟩,by omega,by omega⟩
 generalize (⟨x,x.Len,101+w⟩:JAB)=o at ho
 have hr:=q2.smt
 have hreg:=Yk hf ho
 have hg:FOk (more f o):=⟨RL hreg,by show (f.JAD.Objects++[o]).length<=_;rw[X11];show _+1<=_;omega,hf.fok.r,hf.fok.l⟩
 rw[Tm hf.fok (FS p2) hr,AA]
 have hall:=Tm hg (FS p2) hr
 unfold more at hall
 rw[hall,AA,bQ (VX _ _ _)]
 dsimp only
 rw[bQ (VX _ _ _)]
 dsimp only
 have hrest:=X8 f o p r
 unfold more at hrest
 rw[<- hrest,Pq,VN]
 have hhas:=VN (more f o) p r
 unfold more at hhas
 rw[hhas]
 simp only[AA]
 have key:b12 f p r (Bf r.JAG)=false->b12 (more f o) p r (Bf r.JAG)=false:=by
  intro h0
  unfold b12 at h0 ⊢
  have h0:Kt (Rn f (Bf r.JAG)) p.ASN p.Set r.JAA (M6 r.JAG.Path)=0:=by simpa using h0
  have h1:Kt (Rn (more f o) (Bf r.JAG)) p.ASN p.Set r.JAA (M6 r.JAG.Path)=0:=by
   refine WS (Xo hf.fok.s) (FS p2) (Um hf.reg _) rfl (Um hreg _) (fun y hy=>?_) h0
   unfold Rn wdI at hy ⊢
   cases hh:Bf r.JAG
   ·rw[hh] at hy
    exact List.mem_append_left _ hy
   rw[hh] at hy
   show y∈(f.JAD.Objects++[o]).map wd
   rw[List.map_append]
   exact List.mem_append_left _ hy
  rw[h1];rfl
 unfold more at key
 refine .join (fun b=>b=true) (fun k hk=>?_) fun b hb=>.ret hb
 rw[if_pos (by simp)]
 refine .ite (fun _=>hk _ rfl) fun h=>?_
 have h2:(F5 r&&b12 { f with JAD:=⟨f.JAD.Sets,f.JAD.Objects++[o]⟩ } p r (Bf r.JAG))=false:=by
  cases hfo:F5 r
  ·rfl
  rw[hfo,Bool.true_and] at h
  rw[key (by simpa using h)];rfl
 rw[h2,if_pos (by rfl)]
 exact hk _ rfl
theorem cL {raw:JAI}{q:JAO}{a:JAG}{l:List Int}{what by':Int}(hz :∀s∈raw.JAD.Sets,GM s)(hl:l.length<=maxLen):C9 raw q a l what by'=some true:=by
 suffices h:Ok (C9 raw q a l what by') fun b=>b=true by
  obtain⟨b,e,rfl⟩:=h
  exact e
 unfold C9
 obtain⟨b,hb⟩:=MW a
 rw[hb,LA]
 refine .join (fun _=>True) (fun k hk=>?_) fun v _=>?_
 ·refine .ite (fun _=>hk _ trivial) fun _=>.ite (fun _=>hk _ trivial) fun _=>.ite (fun _=>hk _ trivial) fun _=>.ite (fun _=>hk _ trivial) fun _=>?_
  rw[AA];exact hk _ trivial
 refine .ite (fun _=>by rw[AA];exact .ret rfl) fun _=>?_
 unfold E2
 rw[AA]
 refine .bind (FU (RS hl)) ?_
 rintro⟨f,d⟩ ⟨hf,hd⟩
 dsimp only at hf hd ⊢
 refine .bind (Nv hd (by omega)) ?_
 rintro⟨p,d⟩ ⟨⟨p1,p2,p3⟩,hd⟩
 dsimp only at p1 p2 p3 hd ⊢
 refine .bind (By (by omega)) fun w hw=>?_
 refine .join (fun g:JAI=>g.JAD.Sets=f.JAD.Sets) (fun k hk=>?_) fun g hg=>?_
 ·refine .ite (fun _=>hk _ rfl) fun _=>?_
  refine .join (fun g:JAI=>g.JAD.Sets=f.JAD.Sets) (fun k2 hk2=>?_) fun g hg=>hk _ hg
  refine .ite (fun _=>.bind (By (by omega)) fun _ _=>hk2 _ rfl) fun _=>?_
  refine .join (fun g:JAI=>g.JAD.Sets=f.JAD.Sets) (fun k3 hk3=>?_) fun g hg=>hk2 _ hg
  refine .ite (fun _=>.bind (By (by omega)) fun _ _=>hk3 _ rfl) fun _=>?_
  refine .join (fun g:JAI=>g.JAD.Sets=f.JAD.Sets) (fun k4 hk4=>?_) fun g hg=>hk3 _ hg
  refine .ite (fun _=>.bind (By (by omega)) fun _ _=>hk4 _ rfl) fun _=>?_
  refine .join (fun x:Int×(List JAA)×Int×Int×Int×Int×Int×Int×(List JAA)×(List JAN)×(List Int)×Int×(List Set)×(List JAB)×(List JAB)=>x.2.2.2.2.2.2.2.2.2.2.2.2.1=f.JAD.Sets) (fun k5 hk5=>?_) fun ⟨_,_,_,_,_,_,_,_,_,_,_,_,s,_,_⟩ hs=>hk4 _ hs
  refine .ite (fun _=>.bind (By (by omega)) fun _ _=>hk5 _ rfl) fun _=>?_
  refine .join (fun x:Int×(List JAA)×Int×Int×Int×Int×Int×Int×(List JAA)×(List JAN)×(List Int)×Int×(List Set)×(List JAB)×(List JAB)=>x.2.2.2.2.2.2.2.2.2.2.2.2.1=f.JAD.Sets) (fun k6 hk6=>?_) fun ⟨_,_,_,_,_,_,_,_,_,_,_,_,s,_,_⟩ hs=>hk5 _ hs
  refine .ite (fun _=>.bind (By (by omega)) fun _ _=>hk6 _ rfl) fun _=>?_
  refine .join (fun x:Int×(List JAA)×Int×Int×Int×Int×Int×Int×(List JAA)×(List JAN)×(List Int)×Int×(List Set)×(List JAB)×(List JAB)=>x.2.2.2.2.2.2.2.2.2.2.2.2.1=f.JAD.Sets) (fun k7 hk7=>?_) fun ⟨_,_,_,_,_,_,_,_,_,_,_,_,s,_,_⟩ hs=>hk6 _ hs
  refine .ite (fun _=>.bind (By (by omega)) fun _ _=>.bind (By (by omega)) fun _ _=>hk7 _ rfl) fun _=>?_
  refine .join (fun g:JAI=>g.JAD.Sets=f.JAD.Sets) (fun k8 hk8=>?_) fun g hg=>hk7 _ hg
  refine .ite (fun _=>.bind (By (by omega)) fun _ _=>hk8 _ rfl) fun _=>?_
  refine .join (fun _=>True) (fun k9 hk9=>?_) fun _ _=>hk8 _ rfl
  exact .ite (fun _=>.bind (By (by omega)) fun _ _=>hk9 _ trivial) fun _=>hk9 _ trivial
 refine .bind (By (by omega)) fun w2 _=>?_
 refine .join (fun _=>True) (fun k hk=>?_) fun _ _=>?_
 ·refine .for_ (fun _=>hk _ trivial) fun next x i s _ hx hn=>?_
  have hxz :∀s∈x.JAD.Sets,GM s:=by
   simp only[List.mem_cons,List.not_mem_nil,or_false] at hx
   rcases hx with rfl | rfl | rfl
   ·exact hz
   ·exact hf.fok.s
   rw[hg];exact hf.fok.s
  rw[QI hxz,Qm hxz,AA,AA,if_neg (by simp)]
  exact hn _
 refine .join (fun _=>True) (fun k hk=>?_) fun _ _=>?_
 ·refine .for_ (fun _=>hk _ trivial) fun next x i s _ hx hn=>?_
  rw[TW,M3,AA,AA,if_neg (by simp)]
  exact hn _
 refine .bind (VV hd) ?_
 rintro⟨c,d⟩ ⟨hc,hd⟩
 dsimp only at hc hd ⊢
 rw[KH hf.fok.o,IR hf.fok.o,AA,AA]
 refine .join (fun _=>True) (fun k hk=>?_) fun _ _=>?_
 ·refine .forX (fun _ _=>True) trivial (fun _ _=>hk _ trivial) fun next x i s hx _ hn=>?_
  have hi:=(X16.1 hx).1
  refine .join (fun b=>b=false) (fun k2 hk2=>?_) fun b hb=>?_
  ·rw[if_neg (by simp only[decide_eq_true_eq];omega),QQ (x:=x) (by omega) (by rw[Int.toNat_natCast];exact hx),AA,(JAB.eqd_iff x x).2 rfl]
   exact hk2 _ rfl
  rw[hb,if_neg (by simp)]
  exact hn _ trivial
 refine .join (fun b=>b=true) (fun k hk=>?_) fun b hb=>.ret hb
 rw[if_pos (by simp),Gf,HB,Gf,HB]
 simp only[AA]
 rw[if_pos (by simp),if_pos (by simp)]
 exact hk _ rfl
theorem Zu (l:List Int)(h:l.length<=maxLen/\l.length*8<=reachBytes/\∀a∈l,I64 a):CE l=some true:=af h.1
theorem dK (l:List Int)(n:Int)(h:l.length<=maxLen/\l.length*8<=reachBytes/\∀a∈l,I64 a)(_:I64 n):Di l n=some true:=dh h.1
theorem cg (f:JAI)(q:JAO)(a:JAG)(l:List Int)(x y:Int)(hf:JAI.wf f)(_:JAO.wf q)(_:JAG.wf a)(h:l.length<=maxLen/\l.length*8<=reachBytes/\∀a∈l,I64 a)(_:I64 x)(_:I64 y):C9 f q a l x y=some true:=by
 refine cL (fun s hs=>?_) h.1
 have hr:JAD.wf f.JAD:=hf.2.2.2.2.2.2.2.2.2.2.2.2.1
 have hs':Set.wf s:=hr.1.2.2 s hs
 exact⟨hs'.1.1,fun x hx=>(hs'.2.2.1.2.2 x hx).1⟩
end Go.AX.Q24
end
section
namespace Go.AX.Q24
open Go Go.AX Go.Proofs
variable {wl:Prop}
theorem HW {a0:List Int}{r:JAL}(h:E2 a0=some r):yC wl 8 [AV.d (D.l 1 D.i a0)] [] (.ref 0 0) [.box (JAL.av r)]:=by
 refine oK Tryz.f8 ⟨rfl,?_⟩;unfold E2 at h;exact fin h
theorem Bz {a0:Int}{a1:Int}{r:Int}(h:C0 a0 a1=some r):yC wl 26 [AV.d (D.i a0),AV.d (D.i a1)] [] (.d (D.i r)) []:=by
 refine oK Tryz.f26 ⟨rfl,?_⟩;unfold C0 at h;obtain⟨_,g1,h⟩:=AW h;refine⟨Ie g1,_,rfl,?_⟩;refine AG h (fun v2=>⟨dd 5 (yi v2::dd 9 ([])),nn 15 ([])⟩) ?_ ?_
 ·intro _ h;refine Ae h fun h=>?_;refine⟨_,rfl,?_⟩;exact AH h
 rintro v2 h;exact fin h
theorem AL {a0:JAL}{a1:Int}{r:Int×JAL}(h:AN a0 a1=some r):yC wl 11 [.ref 0 0,AV.d (D.i a1)] [.box (JAL.av a0)] (.d (D.i r.1)) [.box (JAL.av r.2)]:=by
 refine oK Tryz.f11 ⟨rfl,?_⟩;unfold AN at h;(conv=>whnf);refine .inl (dO ?_);refine⟨a0.L.length,X10 _,?_⟩;refine cO ?_;refine goC ?_;refine AP h ?_ ?_<;>intro h
 ·exact fin h
 refine⟨_,rfl,?_⟩;refine .inl (dO ?_);refine⟨_,rfl,?_⟩;(conv=>whnf);refine Cd h (fun _=>rfl) fun _ h=>?_;refine Ah h (fun _=>Bz) (fun _=>rfl) fun _ h=>?_;refine cO ?_;exact fin h
theorem Iy {a0:Int}{r:JAA}(h:F8 a0=some r):yC wl 35 [AV.d (D.i a0)] [] (.d (JAA.toD r)) []:=by
 refine oK Tryz.f35 ⟨rfl,?_⟩;unfold F8 at h;(conv=>whnf);refine .go ?_;refine AP h ?_ ?_<;>intro h
 ·refine⟨_,BK _,?_⟩;refine⟨by decide,_,BK _,?_⟩;refine⟨_,BK _,?_⟩;exact fin h
 refine⟨_,BK _,?_⟩;refine⟨by decide,_,BK _,?_⟩;refine⟨_,BK _,?_⟩;exact fin h
theorem DO {a0:JAL}{r:JAI×JAL}(h:Bh a0=some r):yC wl 9 [.ref 0 0] [.box (JAL.av a0)] (.d (JAI.toD r.1)) [.box (JAL.av r.2)]:=by
 refine oK Tryz.f9 ⟨rfl,?_⟩;unfold Bh at h;(conv=>whnf);refine AD h (fun _=>AL) ?_;rintro⟨_,_⟩ h;(conv=>whnf);refine .inl ?_;refine⟨rfl,?_⟩;(conv=>whnf);refine ce (f:=D.i) h fun v1 h=>?_;refine AD h (fun _=>AL) ?_;rintro⟨_,_⟩ h;refine AG h (fun (v2,v3)=>⟨yr 0 0::X::yr 3 0::yr 4 0::dd 93 ([]),yB (JAL.av v2)::N::N::yB JAI.zv::yB [yi 99,AV.own 13 (List.map JAA.toD ([(⟨(⟨false,(0:UInt64),(3221225984:UInt64)⟩:Addr),24⟩:JAA)]:List JAA)).length,yi 8,yi 24,yi 19,yi 64,yi 25,yi 65,yO 29 JAA.toD v3,yO 16 JAN.toD ([(⟨64512,65534⟩:JAN)]:List JAN),y0 v1,yi 8,AV.d (D.nil 3),AV.d (D.nil 6),AV.d (D.nil 6)]::nn 8 (some (OB.row 43 4 (List.map JAA.toD ([(⟨(⟨false,(0:UInt64),(3221225984:UInt64)⟩:Addr),24⟩:JAA)]:List JAA)) .no)::N::N::yR 71 2 JAN.toD ([(⟨64512,65534⟩:JAN)]:List JAN)::nn 12 (yR 43 4 JAA.toD v3::nn 68 ([])))⟩) ?_ ?_
 ·intro _ h;refine Ae h fun h=>?_;refine AD h (fun _=>AL) ?_;rintro⟨_,_⟩ h;refine AD h (fun _=>Iy) fun _ h=>?_;exact AH h
 rintro⟨v2,v3⟩ h;refine AD h (fun _=>AL) ?_;rintro⟨_,_⟩ h;refine AG h (fun (v4,v5)=>⟨yr 0 0::X::yr 3 0::yr 4 0::dd 93 ([]),yB (JAL.av v4)::N::N::yB JAI.zv::yB [yi 99,AV.own 13 (List.map JAA.toD ([(⟨(⟨false,(0:UInt64),(3221225984:UInt64)⟩:Addr),24⟩:JAA)]:List JAA)).length,yi 8,yi 24,yi 19,yi 64,yi 25,yi 65,yO 29 JAA.toD v3,yO 16 JAN.toD ([(⟨64512,65534⟩:JAN)]:List JAN),y0 v1,yi v5,AV.d (D.nil 3),AV.d (D.nil 6),AV.d (D.nil 6)]::nn 8 (some (OB.row 43 4 (List.map JAA.toD ([(⟨(⟨false,(0:UInt64),(3221225984:UInt64)⟩:Addr),24⟩:JAA)]:List JAA)) .no)::N::N::yR 71 2 JAN.toD ([(⟨64512,65534⟩:JAN)]:List JAN)::nn 12 (yR 43 4 JAA.toD v3::nn 68 ([])))⟩) ?_ ?_
 ·intro _ h;refine Ae h fun h=>?_;refine AD h (fun _=>AL) ?_;rintro⟨_,_⟩ h;refine⟨_,rfl,?_⟩;exact AH h
 rintro⟨v4,v5⟩ h;refine AD h (fun _=>AL) ?_;rintro⟨v6,_⟩ h;refine AG h (fun (v7,v8,v9)=>⟨X::X::yr 3 0::yr 4 0::dd 93 ([]),zS6 99 8 24 19 64 25 65 v5 v1 v3 ([(⟨64512,65534⟩:JAN)]:List JAN) v8 v9 v7⟩) ?_ ?_
 ·intro _ h;revert h;refine BZ (fun (v10,v11,v12,v13)=>⟨yr 0 0::X::yr 3 0::yr 4 0::yi v6::yi v10::dd 91 ([]),zS6 99 8 24 19 64 25 65 v5 v1 v3 ([(⟨64512,65534⟩:JAN)]:List JAN) v12 v13 v11⟩) ?_ ?_
  ·exact wk
  rintro _ ⟨v10,v11,v12,v13⟩ _ h p14;refine goC ?_;refine Ae h fun h=>?_;refine AG h (fun (v15,v16,v17)=>⟨yr 0 0::X::yr 3 0::yr 4 0::yi v6::yi v10::dd 91 ([]),zS6 99 8 24 19 64 25 65 v5 v1 v3 ([(⟨64512,65534⟩:JAN)]:List JAN) v16 v17 v15⟩) ?_ ?_
  ·intro _ h;refine AD h (fun _=>Iy) fun v18 h=>?_;refine AG h (fun v19=>⟨yr 0 0::X::yr 3 0::yr 4 0::yi v6::yi v10::yr 7 0::yi v19::dd 89 ([]),eD 99 8 24 19 64 25 65 v5 v1 v3 ([(⟨64512,65534⟩:JAN)]:List JAN) v12 v13 v11 v18⟩) ?_ ?_
   ·intro _ h;exact selC h
   rintro v19 h;refine⟨([101,102,103,104,105,201,202,203,301]:List Int).length,HK,?_⟩;refine AG h (fun (v20,v21)=>⟨yr 0 0::X::yr 3 0::yr 4 0::yi v6::yi v10::yr 7 0::yi v19::dd 89 ([]),eD 99 8 24 19 64 25 65 v5 v1 v3 ([(⟨64512,65534⟩:JAN)]:List JAN) v21 v13 v20 v18⟩) ?_ ?_
   ·intro _ h;revert h;refine IF 49 3 1 .no D.i rfl (fun i22 (v23,v24)=>⟨dM v6 v10 v19 (([101,102,103,104,105,201,202,203,301]:List Int).length:Int) (i22:Int) ([101,102,103,104,105,201,202,203,301]:List Int),zS7 99 8 24 19 64 25 65 v5 v1 v3 ([(⟨64512,65534⟩:JAN)]:List JAN) v24 v13 ([101,102,103,104,105,201,202,203,301]:List Int) v23 v18⟩) ?_ ?_ ?_
    ·exact wk
    ·rintro⟨v23,v24⟩ K25 h;refine goC ?_;exact AH h
    rintro _ i22 x26 ⟨v23,v24⟩ K25 b22 c22 e22 h p27;refine goC ?_;refine Ar (BO b22) ?_;refine goC ?_;refine⟨rfl,Aq (f:=D.i) b22,?_⟩;refine⟨rfl,D.i x26,c22,?_⟩;refine AG h (fun (v28,v29)=>⟨yr 0 0::X::yr 3 0::yr 4 0::yi v6::yi v10::yr 7 0::yi v19::X::yi x26::dd 38 (yO 49 D.i ([101,102,103,104,105,201,202,203,301]:List Int)::yi (([101,102,103,104,105,201,202,203,301]:List Int).length:Int)::yi (i22:Int)::dd 9 (yb v28::dd 36 ([]))),zS7 99 8 24 19 64 25 65 v5 v1 v3 ([(⟨64512,65534⟩:JAN)]:List JAN) v24 v13 ([101,102,103,104,105,201,202,203,301]:List Int) v29 v18⟩) ?_ ?_
    ·intro _ h;refine A6 h fun h=>?_;refine AD h (fun _=>AL) ?_;rintro⟨_,_⟩ h;exact AH h
    rintro⟨v28,v29⟩ h;refine AG h (fun v30=>⟨dM v6 v10 v19 (([101,102,103,104,105,201,202,203,301]:List Int).length:Int) (i22:Int) ([101,102,103,104,105,201,202,203,301]:List Int),zS7 99 8 24 19 64 25 65 v5 v1 v3 ([(⟨64512,65534⟩:JAN)]:List JAN) v30 v13 ([101,102,103,104,105,201,202,203,301]:List Int) v29 v18⟩) ?_ ?_
    ·intro _ h;refine Ae h fun h=>?_;refine⟨rfl,?_⟩;refine apO (f:=JAB.toD) h rfl fun _ h=>?_;exact AH h
    rintro v30 h;refine⟨_,e22,?_⟩;exact p27 _ _ wk h
   rintro⟨v20,v21⟩ h;refine AD h (fun _=>AL) ?_;rintro⟨_,_⟩ h;refine AG h (fun (v31,v32)=>⟨yr 0 0::X::yr 3 0::yr 4 0::yi v6::yi v10::dd 91 ([]),zS6 99 8 24 19 64 25 65 v5 v1 v3 ([(⟨64512,65534⟩:JAN)]:List JAN) v21 v32 v31⟩) ?_ ?_
   ·intro _ h;refine Ae h fun h=>?_;refine .inl (dO ?_);refine Ah h (fun _=>AL) (fun _=>rfl) ?_;rintro⟨_,_⟩ h;obtain⟨v33,g34,h⟩:=AW h;refine⟨rfl,Ed (f:=D.i) g34,?_⟩;refine⟨rfl,D.i v33,(EZ (f:=D.i) g34),?_⟩;refine⟨rfl,?_⟩;refine apO (f:=JAB.toD) h rfl fun _ h=>?_;refine cO ?_;exact AH h
   rintro⟨v31,v32⟩ h;exact AH h
  rintro⟨v15,v16,v17⟩ h;refine⟨_,rfl,?_⟩;exact p14 _ _ wk h
 rintro⟨v7,v8,v9⟩ h;refine⟨rfl,?_⟩;refine⟨rfl,?_⟩;(conv=>whnf);refine .inl ?_;refine⟨rfl,?_⟩;refine⟨rfl,?_⟩;refine⟨rfl,?_⟩;refine⟨rfl,?_⟩;refine⟨rfl,?_⟩;refine⟨rfl,?_⟩;exact fin h
theorem H5 {a0:Int}{a1:Bool}{r:Addr}(h:Fg a0 a1=some r):yC wl 36 [AV.d (D.i a0),AV.d (D.b a1)] [] (.d (Addr.toD r)) []:=by
 refine oK Tryz.f36 ⟨rfl,?_⟩;unfold Fg at h;(conv=>whnf);refine .go ?_;refine AP h ?_ ?_<;>intro h
 ·refine⟨_,BK _,?_⟩;exact fin h
 refine⟨by decide,_,rfl,?_⟩;refine⟨_,rfl,?_⟩;refine⟨_,BK _,?_⟩;refine⟨_,BK _,?_⟩;exact fin h
theorem D1 {a0:JAL}{a1:Int}{r:JAO×JAL}(h:B7 a0 a1=some r):yC wl 10 [.ref 0 0,AV.d (D.i a1)] [.box (JAL.av a0)] (.d (JAO.toD r.1)) [.box (JAL.av r.2)]:=by
 refine oK Tryz.f10 ⟨rfl,?_⟩;unfold B7 at h;(conv=>whnf);refine .inl (dO ?_);refine Ah h (fun _=>AL) (fun _=>rfl) ?_;rintro⟨_,_⟩ h;obtain⟨v1,g2,h⟩:=AW h;refine⟨rfl,Ed (f:=D.s) g2,?_⟩;refine⟨rfl,D.s v1,(EZ (f:=D.s) g2),?_⟩;refine Ah h (fun _=>AL) (fun _=>rfl) ?_;rintro⟨_,_⟩ h;refine⟨_,rfl,?_⟩;refine Ah h (fun _=>AL) (fun _=>rfl) ?_;rintro⟨_,_⟩ h;refine⟨_,rfl,?_⟩;refine Ah h (fun _=>H5) (fun _=>rfl) fun _ h=>?_;refine Ah h (fun _=>H5) (fun _=>rfl) fun _ h=>?_;refine cO ?_;(conv=>whnf);refine .inl ?_;refine⟨rfl,?_⟩;exact fin h
theorem Hw {a0:JAL}{r:JAA×JAL}(h:Dc a0=some r):yC wl 25 [.ref 0 0] [.box (JAL.av a0)] (.d (JAA.toD r.1)) [.box (JAL.av r.2)]:=by
 refine oK Tryz.f25 ⟨rfl,?_⟩;unfold Dc at h;(conv=>whnf);refine AD h (fun _=>AL) ?_;rintro⟨_,_⟩ h;refine AD h (fun _=>Iy) fun v1 h=>?_;refine AD h (fun _=>AL) ?_;rintro⟨_,v2⟩ h;refine goC ?_;refine AG h (fun (v3,v4)=>⟨X::X::yr 3 0::yr 4 0::dd 29 ([]),yB (JAL.av v3)::N::N::yB JAA.zv::yB (JAA.av v4)::nn 29 ([])⟩) ?_ ?_
 ·intro _ h;refine AP h ?_ ?_<;>intro h
  ·refine AG h (fun v5=>⟨X::X::yr 3 0::yr 4 0::dd 29 ([]),yB (JAL.av v2)::N::N::yB JAA.zv::yB [AV.d (D.b v1.Addr.V6),AV.d (D.u64 v1.Addr.Hi),AV.d (D.u64 v1.Addr.Lo),yi v5]::nn 29 ([])⟩) ?_ ?_
   ·intro _ h;exact selC h
   rintro v5 h;exact AH h
  refine AG h (fun (v6,v7)=>⟨X::X::yr 3 0::yr 4 0::dd 29 ([]),yB (JAL.av v6)::N::N::yB JAA.zv::yB (JAA.av v7)::nn 29 ([])⟩) ?_ ?_
  ·intro _ h;refine Ae h fun h=>?_;refine AG h (fun v8=>⟨yr 0 0::X::yr 3 0::yr 4 0::dd 29 ([]),yB (JAL.av v2)::N::N::yB JAA.zv::yB [AV.d (D.b v1.Addr.V6),AV.d (D.u64 v1.Addr.Hi),AV.d (D.u64 v1.Addr.Lo),yi v8]::nn 29 ([])⟩) ?_ ?_
   ·intro _ h;exact selC h
   rintro v8 h;refine .inl (dO ?_);refine Ah h (fun _=>AL) (fun _=>rfl) ?_;rintro⟨_,_⟩ h;refine⟨_,BK _,?_⟩;refine⟨_,BK _,?_⟩;refine cO ?_;exact AH h
  rintro⟨v6,v7⟩ h;exact AH h
 rintro⟨v3,v4⟩ h;exact fin h
theorem Ql {r:JAG}(h:GT=some r):yC wl 69 [] [] (.d (JAG.toD r)) []:=by
 refine oK Tryz.f69 ⟨rfl,?_⟩;unfold GT at h;exact fin h
theorem Iq {a0:JAL}{r:(List JAC)×JAL}(h:CV a0=some r):yC wl 70 [.ref 0 0] [.box (JAL.av a0)] (.d (D.l 2 JAC.toD r.1)) [.box (JAL.av r.2)]:=by
 refine oK Tryz.f70 ⟨rfl,?_⟩;unfold CV at h;(conv=>whnf);refine AD h (fun _=>AL) ?_;rintro⟨v1,_⟩ h;refine⟨([(⟨0,99⟩:JAC),(⟨0,101⟩:JAC),(⟨0,102⟩:JAC),(⟨99,101⟩:JAC),(⟨99,103⟩:JAC),(⟨500,1⟩:JAC),(⟨65535,666⟩:JAC),(⟨65535,65282⟩:JAC)]:List JAC).length,HK,?_⟩;refine AG h (fun (v2,v3)=>⟨dd 4 (yO 5 JAC.toD v3::dd 43 ([])),yB (JAL.av v2)::nn 4 (yR 94 2 JAC.toD v3::nn 43 ([]))⟩) ?_ ?_
 ·intro _ h;revert h;refine IF 17 94 2 .no JAC.toD rfl (fun i4 (v5,v6)=>⟨zS9 v1 (([(⟨0,99⟩:JAC),(⟨0,101⟩:JAC),(⟨0,102⟩:JAC),(⟨99,101⟩:JAC),(⟨99,103⟩:JAC),(⟨500,1⟩:JAC),(⟨65535,666⟩:JAC),(⟨65535,65282⟩:JAC)]:List JAC).length:Int) (i4:Int) v6 ([(⟨0,99⟩:JAC),(⟨0,101⟩:JAC),(⟨0,102⟩:JAC),(⟨99,101⟩:JAC),(⟨99,103⟩:JAC),(⟨500,1⟩:JAC),(⟨65535,666⟩:JAC),(⟨65535,65282⟩:JAC)]:List JAC),di v6 ([(⟨0,99⟩:JAC),(⟨0,101⟩:JAC),(⟨0,102⟩:JAC),(⟨99,101⟩:JAC),(⟨99,103⟩:JAC),(⟨500,1⟩:JAC),(⟨65535,666⟩:JAC),(⟨65535,65282⟩:JAC)]:List JAC) v5⟩) ?_ ?_ ?_
  ·exact wk
  ·rintro⟨v5,v6⟩ K7 h;refine goC ?_;exact AH h
  rintro _ i4 x8 ⟨v5,v6⟩ K7 b4 c4 e4 h p9;refine goC ?_;refine Ar (BO b4) ?_;refine goC ?_;refine⟨rfl,Aq (f:=JAC.toD) b4,?_⟩;refine⟨rfl,JAC.toD x8,c4,?_⟩;refine AG h (fun (v10,v11)=>⟨fZ v1 (([(⟨0,99⟩:JAC),(⟨0,101⟩:JAC),(⟨0,102⟩:JAC),(⟨99,101⟩:JAC),(⟨99,103⟩:JAC),(⟨500,1⟩:JAC),(⟨65535,666⟩:JAC),(⟨65535,65282⟩:JAC)]:List JAC).length:Int) (i4:Int) v10 v6 ([(⟨0,99⟩:JAC),(⟨0,101⟩:JAC),(⟨0,102⟩:JAC),(⟨99,101⟩:JAC),(⟨99,103⟩:JAC),(⟨500,1⟩:JAC),(⟨65535,666⟩:JAC),(⟨65535,65282⟩:JAC)]:List JAC),eS v6 ([(⟨0,99⟩:JAC),(⟨0,101⟩:JAC),(⟨0,102⟩:JAC),(⟨99,101⟩:JAC),(⟨99,103⟩:JAC),(⟨500,1⟩:JAC),(⟨65535,666⟩:JAC),(⟨65535,65282⟩:JAC)]:List JAC) v11 x8⟩) ?_ ?_
  ·intro _ h;refine⟨_,rfl,?_⟩;refine⟨_,BK _,?_⟩;refine⟨Int.natCast_nonneg _,_,rfl,?_⟩;refine⟨_,rfl,?_⟩;refine Ae h fun h=>?_;refine A6 h fun h=>?_;refine AD h (fun _=>AL) ?_;rintro⟨_,_⟩ h;exact AH h
  rintro⟨v10,v11⟩ h;refine AG h (fun v12=>⟨zS9 v1 (([(⟨0,99⟩:JAC),(⟨0,101⟩:JAC),(⟨0,102⟩:JAC),(⟨99,101⟩:JAC),(⟨99,103⟩:JAC),(⟨500,1⟩:JAC),(⟨65535,666⟩:JAC),(⟨65535,65282⟩:JAC)]:List JAC).length:Int) (i4:Int) v12 ([(⟨0,99⟩:JAC),(⟨0,101⟩:JAC),(⟨0,102⟩:JAC),(⟨99,101⟩:JAC),(⟨99,103⟩:JAC),(⟨500,1⟩:JAC),(⟨65535,666⟩:JAC),(⟨65535,65282⟩:JAC)]:List JAC),di v12 ([(⟨0,99⟩:JAC),(⟨0,101⟩:JAC),(⟨0,102⟩:JAC),(⟨99,101⟩:JAC),(⟨99,103⟩:JAC),(⟨500,1⟩:JAC),(⟨65535,666⟩:JAC),(⟨65535,65282⟩:JAC)]:List JAC) v11⟩) ?_ ?_
  ·intro _ h;refine Ae h fun h=>?_;refine⟨rfl,?_⟩;refine apO (f:=JAC.toD) h rfl fun _ h=>?_;exact AH h
  rintro v12 h;refine⟨_,e4,?_⟩;exact p9 _ _ wk h
 rintro⟨v2,v3⟩ h;(conv=>whnf);refine .inl ?_;(conv=>whnf);refine .inl ?_;refine⟨rfl,?_⟩;exact fin h
theorem MV {a0:JAL}{r:(List JAH)×JAL}(h:Ez a0=some r):yC wl 71 [.ref 0 0] [.box (JAL.av a0)] (.d (D.l 3 JAH.toD r.1)) [.box (JAL.av r.2)]:=by
 refine oK Tryz.f71 ⟨rfl,?_⟩;unfold Ez at h;(conv=>whnf);refine AD h (fun _=>AL) ?_;rintro⟨v1,v2⟩ h;refine⟨([(⟨5,5,5⟩:JAH),(⟨99,0,0⟩:JAH),(⟨99,0,103⟩:JAH),(⟨99,1,102⟩:JAH),(⟨99,101,0⟩:JAH),(⟨99,102,104⟩:JAH),(⟨99,103,101⟩:JAH)]:List JAH).length,HK,?_⟩;refine AG h (fun v3=>⟨dd 4 (yO 5 JAH.toD v3::dd 33 ([])),yB (JAL.av v2)::nn 4 (yR 154 3 JAH.toD v3::nn 33 ([]))⟩) ?_ ?_
 ·intro _ h;revert h;refine IF 16 154 3 .no JAH.toD rfl (fun i4 v5=>⟨dI v1 (([(⟨5,5,5⟩:JAH),(⟨99,0,0⟩:JAH),(⟨99,0,103⟩:JAH),(⟨99,1,102⟩:JAH),(⟨99,101,0⟩:JAH),(⟨99,102,104⟩:JAH),(⟨99,103,101⟩:JAH)]:List JAH).length:Int) (i4:Int) v5 ([(⟨5,5,5⟩:JAH),(⟨99,0,0⟩:JAH),(⟨99,0,103⟩:JAH),(⟨99,1,102⟩:JAH),(⟨99,101,0⟩:JAH),(⟨99,102,104⟩:JAH),(⟨99,103,101⟩:JAH)]:List JAH),cp v5 ([(⟨5,5,5⟩:JAH),(⟨99,0,0⟩:JAH),(⟨99,0,103⟩:JAH),(⟨99,1,102⟩:JAH),(⟨99,101,0⟩:JAH),(⟨99,102,104⟩:JAH),(⟨99,103,101⟩:JAH)]:List JAH) v2⟩) ?_ ?_ ?_
  ·exact wk
  ·rintro v5 K6 h;refine goC ?_;exact AH h
  rintro _ i4 x7 v5 K6 b4 c4 e4 h p8;refine goC ?_;refine Ar (BO b4) ?_;refine goC ?_;refine⟨rfl,Aq (f:=JAH.toD) b4,?_⟩;refine⟨rfl,JAH.toD x7,c4,?_⟩;refine⟨_,rfl,?_⟩;refine⟨_,BK _,?_⟩;refine⟨Int.natCast_nonneg _,_,rfl,?_⟩;refine⟨_,rfl,?_⟩;refine AG h (fun v9=>⟨dI v1 (([(⟨5,5,5⟩:JAH),(⟨99,0,0⟩:JAH),(⟨99,0,103⟩:JAH),(⟨99,1,102⟩:JAH),(⟨99,101,0⟩:JAH),(⟨99,102,104⟩:JAH),(⟨99,103,101⟩:JAH)]:List JAH).length:Int) (i4:Int) v9 ([(⟨5,5,5⟩:JAH),(⟨99,0,0⟩:JAH),(⟨99,0,103⟩:JAH),(⟨99,1,102⟩:JAH),(⟨99,101,0⟩:JAH),(⟨99,102,104⟩:JAH),(⟨99,103,101⟩:JAH)]:List JAH),cp v9 ([(⟨5,5,5⟩:JAH),(⟨99,0,0⟩:JAH),(⟨99,0,103⟩:JAH),(⟨99,1,102⟩:JAH),(⟨99,101,0⟩:JAH),(⟨99,102,104⟩:JAH),(⟨99,103,101⟩:JAH)]:List JAH) v2⟩) ?_ ?_
  ·intro _ h;refine Ae h fun h=>?_;refine⟨rfl,?_⟩;refine apO (f:=JAH.toD) h rfl fun _ h=>?_;exact AH h
  rintro v9 h;refine⟨_,e4,?_⟩;exact p8 _ _ wk h
 rintro v3 h;(conv=>whnf);refine .inl ?_;(conv=>whnf);refine .inl ?_;refine⟨rfl,?_⟩;exact fin h
theorem IL {a0:JAL}{a1:Int}{a2:Bool}{r:JAG×JAL}(h:Du a0 a1 a2=some r):yC wl 31 [.ref 0 0,AV.d (D.i a1),AV.d (D.b a2)] [.box (JAL.av a0)] (.d (JAG.toD r.1)) [.box (JAL.av r.2)]:=by
 refine oK Tryz.f31 ⟨rfl,?_⟩;unfold Du at h;(conv=>whnf);refine AD h (fun _=>Ql) fun v1 h=>?_;refine AD h (fun _=>AL) ?_;rintro⟨v2,_⟩ h;refine AD h (fun _=>AL) ?_;rintro⟨_,_⟩ h;refine AG h (fun (v3,v4)=>⟨yr 0 0::yi a1::yb a2::X::X::X::yr 7 0::yr 8 0::yO 16 D.i v4::dd 117 ([]),yB (JAL.av v3)::nn 6 (yB JAG.zv::zS2 v2 v1.Next.V6 v1.Next.Hi v1.Next.Lo v1.MED v1.Pref v1.OTC v1.Path v1.Communities v1.JAH v1.Other::nn 7 (yR 3 1 D.i v4::nn 110 ([])))⟩) ?_ ?_
 ·intro _ h;revert h;refine BZ (fun (v5,v6,v7)=>⟨yr 0 0::yi a1::yb a2::X::X::X::yr 7 0::yr 8 0::yO 16 D.i v7::yi v5::dd 116 ([]),yB (JAL.av v6)::nn 6 (yB JAG.zv::zS2 v2 v1.Next.V6 v1.Next.Hi v1.Next.Lo v1.MED v1.Pref v1.OTC v1.Path v1.Communities v1.JAH v1.Other::nn 7 (yR 3 1 D.i v7::nn 110 ([])))⟩) ?_ ?_
  ·exact wk
  rintro _ ⟨v5,v6,v7⟩ _ h p8;refine goC ?_;refine Ae h fun h=>?_;refine goC ?_;refine AD h (fun _=>AL) ?_;rintro⟨_,_⟩ h;obtain⟨v9,g10,h⟩:=AW h;refine⟨rfl,Ed (f:=D.i) g10,?_⟩;refine⟨rfl,D.i v9,(EZ (f:=D.i) g10),?_⟩;refine⟨rfl,?_⟩;refine apO (f:=D.i) h rfl fun _ h=>?_;refine⟨_,rfl,?_⟩;exact p8 _ _ wk h
 rintro⟨v3,v4⟩ h;(conv=>whnf);refine .inr (.inl ?_);refine AD h (fun _=>H5) fun v11 h=>?_;refine AD h (fun _=>AL) ?_;rintro⟨_,_⟩ h;refine AG h (fun (v12,v13)=>⟨yr 0 0::X::yb a2::X::X::X::yr 7 0::yr 8 0::dd 118 ([]),yB (JAL.av v12)::nn 6 (yB JAG.zv::yB [yi v2,AV.own 34 1,AV.d (D.b v11.V6),AV.d (D.u64 v11.Hi),AV.d (D.u64 v11.Lo),yi v13,AV.d (D.i v1.Pref),AV.d (D.i v1.OTC),AV.d (D.l 2 JAC.toD v1.Communities),AV.d (D.l 3 JAH.toD v1.JAH),AV.d (D.l 3 JAJ.toD v1.Other)]::nn 7 (yR 3 1 D.i v4::nn 17 (yB [yb false,yO 16 D.i v4]::nn 92 ([]))))⟩) ?_ ?_
 ·intro _ h;refine Ae h fun h=>?_;refine AD h (fun _=>AL) ?_;rintro⟨_,_⟩ h;exact AH h
 rintro⟨v12,v13⟩ h;refine AD h (fun _=>AL) ?_;rintro⟨_,_⟩ h;refine AG h (fun (v14,v15)=>⟨yr 0 0::X::yb a2::X::X::X::yr 7 0::yr 8 0::dd 118 ([]),yB (JAL.av v14)::nn 6 (yB JAG.zv::yB [yi v2,AV.own 34 1,AV.d (D.b v11.V6),AV.d (D.u64 v11.Hi),AV.d (D.u64 v11.Lo),yi v13,yi v15,AV.d (D.i v1.OTC),AV.d (D.l 2 JAC.toD v1.Communities),AV.d (D.l 3 JAH.toD v1.JAH),AV.d (D.l 3 JAJ.toD v1.Other)]::nn 7 (yR 3 1 D.i v4::nn 17 (yB [yb false,yO 16 D.i v4]::nn 92 ([]))))⟩) ?_ ?_
 ·intro _ h;refine Ae h fun h=>?_;refine AD h (fun _=>AL) ?_;rintro⟨_,_⟩ h;exact AH h
 rintro⟨v14,v15⟩ h;refine AD h (fun _=>Iq) ?_;rintro⟨v16,_⟩ h;refine AD h (fun _=>MV) ?_;rintro⟨v17,_⟩ h;refine AD h (fun _=>AL) ?_;rintro⟨_,_⟩ h;refine goC ?_;refine AG h (fun (v18,v19,v20,v21,v22,v23,v24)=>⟨VW,yB (JAL.av v18)::nn 6 (yB JAG.zv::yB [yi v2,y1 v19,yb v20,yu v21,yu v22,yi v13,yi v15,yi v23,y2 v16,y3 v17,y4 v24]::nn 118 ([]))⟩) ?_ ?_
 ·intro _ h;refine AP h ?_ ?_<;>intro h
  ·refine AD h (fun _=>AL) ?_;rintro⟨_,_⟩ h;refine⟨_,rfl,?_⟩;exact AH h
  refine AG h (fun (v25,v26,v27,v28,v29,v30)=>⟨VW,an v2 v27 v28 v29 v13 v15 v26 v16 v17 v30 v1.OTC v25⟩) ?_ ?_
  ·intro _ h;refine AP h ?_ ?_<;>intro h
   ·refine⟨rfl,?_⟩;obtain⟨v31,g32,h⟩:=AW h;refine⟨rfl,Ed (f:=D.i) g32,?_⟩;obtain⟨v33,g34,h⟩:=AW h;have g34l:=Kr g34;refine⟨rfl,rfl,D.i v31,(EZ (f:=D.i) g32),?_⟩;refine⟨_,Q3 (f:=D.i) g34,?_⟩;exact AH h
   refine AG h (fun (v35,v36,v37,v38,v39,v40)=>⟨VW,an v2 v37 v38 v39 v13 v15 v36 v16 v17 v40 v1.OTC v35⟩) ?_ ?_
   ·intro _ h;refine AP h ?_ ?_<;>intro h
    ·(conv=>whnf);refine .inl ?_;refine⟨rfl,?_⟩;refine⟨rfl,?_⟩;refine⟨by simp,?_⟩;refine⟨rfl,?_⟩;exact AH h
    refine AG h (fun (v41,v42,v43,v44,v45,v46)=>⟨VW,an v2 v43 v44 v45 v13 v15 v42 v16 v17 v46 v1.OTC v41⟩) ?_ ?_
    ·intro _ h;refine AP h ?_ ?_<;>intro h
     ·refine .inl (dO ?_);refine⟨rfl,?_⟩;refine⟨rfl,?_⟩;refine apO (f:=D.i) h rfl fun _ h=>?_;refine⟨rfl,?_⟩;refine cO ?_;exact AH h
     refine AG h (fun (v47,v48,v49,v50,v51,v52)=>⟨VW,an v2 v49 v50 v51 v13 v15 v48 v16 v17 v52 v1.OTC v47⟩) ?_ ?_
     ·intro _ h;refine AP h ?_ ?_<;>intro h
      ·refine AD h (fun _=>H5) fun _ h=>?_;exact AH h
      refine AG h (fun (v53,v54,v55)=>⟨VW,yB (JAL.av v53)::nn 6 (yB JAG.zv::yB [yi v2,y1 v54,AV.d (D.b v11.V6),AV.d (D.u64 v11.Hi),AV.d (D.u64 v11.Lo),yi v13,yi v15,AV.d (D.i v1.OTC),y2 v16,y3 v17,y4 v55]::nn 118 ([]))⟩) ?_ ?_
      ·intro _ h;refine AP h ?_ ?_<;>intro h
       ·refine .inl (dO ?_);refine⟨rfl,?_⟩;refine⟨rfl,?_⟩;refine apO (f:=D.i) h rfl fun _ h=>?_;refine⟨rfl,?_⟩;refine cO ?_;exact AH h
       refine AG h (fun (v56,v57,v58)=>⟨VW,yB (JAL.av v56)::nn 6 (yB JAG.zv::yB [yi v2,y1 v57,AV.d (D.b v11.V6),AV.d (D.u64 v11.Hi),AV.d (D.u64 v11.Lo),yi v13,yi v15,AV.d (D.i v1.OTC),y2 v16,y3 v17,y4 v58]::nn 118 ([]))⟩) ?_ ?_
       ·intro _ h;refine A6 h fun h=>?_;refine AG h (fun (v59,v60)=>⟨VW,yB (JAL.av v59)::nn 6 (yB JAG.zv::yB [yi v2,AV.own 34 1,AV.d (D.b v11.V6),AV.d (D.u64 v11.Hi),AV.d (D.u64 v11.Lo),yi v13,yi v15,AV.d (D.i v1.OTC),y2 v16,y3 v17,y4 v60]::nn 7 (yR 3 1 D.i v4::nn 17 (yB [yb false,yO 16 D.i v4]::nn 92 ([]))))⟩) ?_ ?_
        ·intro _ h;refine Ae h fun h=>?_;refine AD h (fun _=>AL) ?_;rintro⟨_,_⟩ h;refine⟨_,Uk _,?_⟩;(conv=>whnf);refine .inr (.inl ?_);exact AH h
        rintro⟨v59,v60⟩ h;exact AH h
       rintro⟨v56,v57,v58⟩ h;exact AH h
      rintro⟨v53,v54,v55⟩ h;exact AH h
     rintro⟨v47,v48,v49,v50,v51,v52⟩ h;exact AH h
    rintro⟨v41,v42,v43,v44,v45,v46⟩ h;exact AH h
   rintro⟨v35,v36,v37,v38,v39,v40⟩ h;exact AH h
  rintro⟨v25,v26,v27,v28,v29,v30⟩ h;exact AH h
 rintro⟨v18,v19,v20,v21,v22,v23,v24⟩ h;exact fin h
theorem Dq {a0:JAL}{a1:Int}{r:JAK×JAL}(h:Bt a0 a1=some r):yC wl 12 [.ref 0 0,AV.d (D.i a1)] [.box (JAL.av a0)] (.d (JAK.toD r.1)) [.box (JAL.av r.2)]:=by
 refine oK Tryz.f12 ⟨rfl,?_⟩;unfold Bt at h;(conv=>whnf);refine AD h (fun _=>Hw) ?_;rintro⟨_,_⟩ h;refine .inl (dO ?_);refine Ah h (fun _=>IL) (fun _=>rfl) ?_;rintro⟨_,_⟩ h;refine cO ?_;exact fin h
theorem Ei {a0:List JAC}{a1:JAC}{r:Int}(h:BC a0 a1=some r):yC wl 130 [AV.d (D.l 2 JAC.toD a0),AV.d (JAC.toD a1)] [] (.d (D.i r)) []:=by
 refine oK Tryz.f130 ⟨rfl,?_⟩;unfold BC at h;refine⟨a0.length,X10 _,?_⟩;refine AG h (fun _=>⟨Kp,JK⟩) ?_ ?_
 ·intro _ h;revert h;refine AM 6 2 JAC.toD rfl (fun i1 _=>⟨y2 a0::X::X::yr 3 0::X::X::y2 a0::yi (a0.length:Int)::yi (i1:Int)::dd 10 ([]),N::N::N::yB (JAC.av a1)::nn 15 ([])⟩) ?_ ?_ ?_
  ·exact wk
  ·rintro _ K2 h;refine goC ?_;refine Ax BV ?_;exact AH h
  rintro _ i1 x3 _ K2 b1 c1 e1 h p4;refine goC ?_;refine Ar (BO b1) ?_;refine goC ?_;refine .inl (dO ?_);refine⟨Aq (f:=JAC.toD) b1,JAC.toD x3,c1,rfl,?_⟩;refine cO ?_;refine goC ?_;refine AP h ?_ ?_<;>intro h
  ·exact fin h
  refine⟨_,e1,?_⟩;exact p4 _ _ wk h
 rintro _ h;exact fin h
theorem EG {a0:List JAC}{a1:JAC}{r:Bool}(h:A8 a0 a1=some r):yC wl 79 [AV.d (D.l 2 JAC.toD a0),AV.d (JAC.toD a1)] [] (.d (D.b r)) []:=by
 refine oK Tryz.f79 ⟨rfl,?_⟩;unfold A8 at h;(conv=>whnf);refine AD h (fun _=>Ei) fun _ h=>?_;exact fin h
theorem Ov {a0:List JAC}{a1:JAC}{r:Bool}(h:HF a0 a1=some r):yC wl 41 [AV.d (D.l 2 JAC.toD a0),AV.d (JAC.toD a1)] [] (.d (D.b r)) []:=by
 refine oK Tryz.f41 ⟨rfl,?_⟩;unfold HF at h;(conv=>whnf);refine AD h (fun _=>EG) fun _ h=>?_;exact fin h
theorem Gp {a0:JAG}{r:Bool}(h:D9 a0=some r):yC wl 17 [AV.d (JAG.toD a0)] [] (.d (D.b r)) []:=by
 refine oK Tryz.f17 ⟨rfl,?_⟩;unfold D9 at h;(conv=>whnf);refine AD h (fun _=>Ov) fun _ h=>?_;exact fin h
theorem Ix {a0:Addr}{r:Bool}(h:GA a0=some r):yC wl 67 [AV.d (Addr.toD a0)] [] (.d (D.b r)) []:=by
 refine oK Tryz.f67 ⟨rfl,?_⟩;unfold GA at h;(conv=>whnf);refine AG h (fun v1=>⟨X::X::yb v1::dd 12 ([]),nn 15 ([])⟩) ?_ ?_
 ·intro _ h;refine A6 h fun h=>?_;exact selC h
 rintro v1 h;exact fin h
theorem Hh {a0:Addr}{r:Int}(h:Bl a0=some r):yC wl 88 [AV.d (Addr.toD a0)] [] (.d (D.i r)) []:=by
 refine oK Tryz.f88 ⟨rfl,?_⟩;unfold Bl at h;(conv=>whnf);refine .go ?_;refine AP h ?_ ?_<;>intro h
 ·exact fin h
 exact fin h
theorem QM {a0:Int}{r:UInt64×UInt64}(h:FV a0=some r):yC wl 139 [AV.d (D.i a0)] [] (.tup [.d (D.u64 r.1),.d (D.u64 r.2)]) []:=by
 refine oK Tryz.f139 ⟨rfl,?_⟩;unfold FV at h;(conv=>whnf);refine .go ?_;refine AP h ?_ ?_<;>intro h
 ·refine⟨_,rfl,?_⟩;refine⟨_,BK _,?_⟩;refine⟨Int.natCast_nonneg _,_,BK _,?_⟩;refine⟨_,BK _,?_⟩;exact fin h
 refine⟨_,BK _,?_⟩;refine⟨Int.natCast_nonneg _,_,BK _,?_⟩;refine⟨_,BK _,?_⟩;exact fin h
theorem KI {a0:Addr}{a1:Int}{r:Addr}(h:D4 a0 a1=some r):yC wl 89 [AV.d (Addr.toD a0),AV.d (D.i a1)] [] (.d (Addr.toD r)) []:=by
 refine oK Tryz.f89 ⟨rfl,?_⟩;unfold D4 at h;(conv=>whnf);refine AD h (fun _=>Hh) fun _ h=>?_;refine⟨_,rfl,?_⟩;refine AD h (fun _=>QM) ?_;rintro⟨_,_⟩ h;refine⟨_,BK _,?_⟩;refine⟨_,BK _,?_⟩;exact fin h
theorem Et {a0:JAA}{r:Bool}(h:DX a0=some r):yC wl 50 [AV.d (JAA.toD a0)] [] (.d (D.b r)) []:=by
 refine oK Tryz.f50 ⟨rfl,?_⟩;unfold DX at h;(conv=>whnf);refine AG h (fun v1=>⟨X::X::yb v1::dd 26 ([]),nn 29 ([])⟩) ?_ ?_
 ·intro _ h;refine .inl (dO ?_);refine Ah h (fun _=>Ix) (fun _=>rfl) fun _ h=>?_;refine AP h ?_ ?_<;>intro h
  ·refine AP h ?_ ?_<;>intro h
   ·refine Ah h (fun _=>Hh) (fun _=>rfl) fun _ h=>?_;refine AP h ?_ ?_<;>intro h
    ·refine Ah h (fun _=>KI) (fun _=>rfl) fun _ h=>?_;refine cO ?_;exact AH h
    refine cO ?_;exact AH h
   refine cO ?_;exact AH h
  refine cO ?_;exact AH h
 rintro v1 h;exact fin h
theorem FX {a0:Int}{r:Bool}(h:B6 a0=some r):yC wl 96 [AV.d (D.i a0)] [] (.d (D.b r)) []:=by
 refine oK Tryz.f96 ⟨rfl,?_⟩;unfold B6 at h;(conv=>whnf);refine AG h (fun v1=>⟨X::X::yb v1::dd 6 ([]),nn 9 ([])⟩) ?_ ?_
 ·intro _ h;exact selC h
 rintro v1 h;exact fin h
theorem Hj {a0:List JAE}{r:Bool}(h:Em a0=some r):yC wl 101 [AV.d (D.l 2 JAE.toD a0)] [] (.d (D.b r)) []:=by
 refine oK Tryz.f101 ⟨rfl,?_⟩;unfold Em at h;refine⟨a0.length,X10 _,?_⟩;refine AG h (fun v1=>⟨X::X::X::yi v1::dd 71 ([]),nn 75 ([])⟩) ?_ ?_
 ·intro _ h;revert h;refine AM 8 2 JAE.toD rfl (fun i2 v3=>⟨y1 a0::X::X::yi v3::dd 4 (y1 a0::yi (a0.length:Int)::yi (i2:Int)::dd 64 ([])),nn 75 ([])⟩) ?_ ?_ ?_
  ·exact wk
  ·rintro v3 K4 h;refine goC ?_;refine Ax BV ?_;exact AH h
  rintro _ i2 x5 v3 K4 b2 c2 e2 h p6;refine goC ?_;refine Ar (BO b2) ?_;refine AG h (fun _=>⟨y1 a0::X::X::yi (A0 (v3+(x5.ASNs.length:Int)))::dd 4 (y1 a0::yi (a0.length:Int)::yi (i2:Int)::dd 64 ([])),nn 75 ([])⟩) ?_ ?_
  ·intro _ h;refine⟨Aq (f:=JAE.toD) b2,JAE.toD x5,c2,rfl,?_⟩;refine AG h (fun v7=>⟨y1 a0::X::X::yi v3::X::yr 5 0::X::X::y1 a0::yi (a0.length:Int)::yi (i2:Int)::dd 25 (yb v7::dd 38 ([])),nn 5 (yB (JAE.av x5)::nn 69 ([]))⟩) ?_ ?_
   ·intro _ h;refine⟨x5.ASNs.length,X10 _,?_⟩;refine A6 h fun h=>?_;refine Ae h fun h=>?_;refine Ae h fun h=>?_;refine⟨_,rfl,?_⟩;(conv=>whnf);refine Cd h (fun _=>rfl) fun _ h=>?_;exact AH h
   rintro v7 h;refine goC ?_;refine AP h ?_ ?_<;>intro h
   ·exact fin h
   refine⟨x5.ASNs.length,X10 _,?_⟩;refine AG h (fun _=>⟨y1 a0::X::X::yi v3::X::yr 5 0::X::X::y1 a0::yi (a0.length:Int)::yi (i2:Int)::dd 64 ([]),nn 5 (yB (JAE.av x5)::nn 69 ([]))⟩) ?_ ?_
   ·intro _ h;revert h;refine AM 38 1 D.i rfl (fun i8 _=>⟨y1 a0::X::X::yi v3::X::yr 5 0::X::X::y1 a0::yi (a0.length:Int)::yi (i2:Int)::dd 27 (AV.d (D.l 1 D.i x5.ASNs)::yi (x5.ASNs.length:Int)::yi (i8:Int)::dd 34 ([])),nn 5 (yB (JAE.av x5)::nn 69 ([]))⟩) ?_ ?_ ?_
    ·exact wk
    ·rintro _ K9 h;refine goC ?_;refine Ax BV ?_;exact AH h
    rintro _ i8 x10 _ K9 b8 c8 e8 h p11;refine goC ?_;refine Ar (BO b8) ?_;refine goC ?_;refine⟨Aq (f:=D.i) b8,D.i x10,c8,rfl,?_⟩;refine AG h (fun v12=>⟨y1 a0::X::X::yi v3::X::yr 5 0::X::X::y1 a0::yi (a0.length:Int)::yi (i2:Int)::dd 27 (AV.d (D.l 1 D.i x5.ASNs)::yi (x5.ASNs.length:Int)::yi (i8:Int)::dd 24 (yb v12::dd 9 ([]))),nn 5 (yB (JAE.av x5)::nn 69 ([]))⟩) ?_ ?_
    ·intro _ h;refine AD h (fun _=>FX) fun _ h=>?_;refine A6 h fun h=>?_;refine Ae h fun h=>?_;refine Ae h fun h=>?_;refine⟨_,rfl,?_⟩;(conv=>whnf);refine Cd h (fun _=>rfl) fun _ h=>?_;exact AH h
    rintro v12 h;refine goC ?_;refine AP h ?_ ?_<;>intro h
    ·exact fin h
    refine⟨_,e8,?_⟩;exact p11 _ _ wk h
   rintro _ h;refine⟨x5.ASNs.length,X10 _,?_⟩;refine⟨_,rfl,?_⟩;exact AH h
  rintro _ h;refine⟨_,e2,?_⟩;exact p6 _ _ wk h
 rintro v1 h;exact fin h
theorem EI {a0:Int}{a1:Int}{a2:Int}{r:Bool}(h:Bw a0 a1 a2=some r):yC wl 144 [AV.d (D.i a0),AV.d (D.i a1),AV.d (D.i a2)] [] (.d (D.b r)) []:=by
 refine oK Tryz.f144 ⟨rfl,?_⟩;unfold Bw at h;(conv=>whnf);refine AG h (fun v1=>⟨dd 6 (yb v1::dd 8 ([])),nn 15 ([])⟩) ?_ ?_
 ·intro _ h;exact selC h
 rintro v1 h;exact fin h
theorem KO {a0:List Int}{r:Int}(h:Dp a0=some r):yC wl 216 [AV.d (D.l 1 D.i a0)] [] (.d (D.i r)) []:=by
 refine oK Tryz.f216 ⟨rfl,?_⟩;unfold Dp at h;refine⟨a0.length,X10 _,?_⟩;refine goC ?_;refine AP h ?_ ?_<;>intro h
 ·exact nomatch h
 (conv=>whnf);refine Cd h (fun _=>rfl) fun _ h=>?_;refine AG h (fun v1=>⟨X::X::X::yi v1::dd 21 ([]),nn 25 ([])⟩) ?_ ?_
 ·intro _ h;revert h;refine BZ (fun (v2,v3)=>⟨y0 a0::X::X::yi v2::yi v3::dd 20 ([]),nn 25 ([])⟩) ?_ ?_
  ·exact wk
  rintro _ ⟨v2,v3⟩ _ h p4;refine⟨a0.length,X10 _,?_⟩;refine goC ?_;refine Ae h fun h=>?_;refine goC ?_;(conv=>whnf);refine Cd h (fun _=>rfl) fun _ h=>?_;refine⟨_,rfl,?_⟩;refine⟨_,rfl,?_⟩;exact p4 _ _ wk h
 rintro v1 h;exact fin h
theorem KR {a0:List Int}{r:Int}(h:Dl a0=some r):yC wl 217 [AV.d (D.l 1 D.i a0)] [] (.d (D.i r)) []:=by
 refine oK Tryz.f217 ⟨rfl,?_⟩;unfold Dl at h;refine⟨a0.length,X10 _,?_⟩;refine goC ?_;refine AP h ?_ ?_<;>intro h
 ·exact nomatch h
 (conv=>whnf);refine Cd h (fun _=>rfl) fun _ h=>?_;refine AG h (fun v1=>⟨X::X::X::yi v1::dd 21 ([]),nn 25 ([])⟩) ?_ ?_
 ·intro _ h;revert h;refine BZ (fun (v2,v3)=>⟨y0 a0::X::X::yi v2::yi v3::dd 20 ([]),nn 25 ([])⟩) ?_ ?_
  ·exact wk
  rintro _ ⟨v2,v3⟩ _ h p4;refine⟨a0.length,X10 _,?_⟩;refine goC ?_;refine Ae h fun h=>?_;refine goC ?_;(conv=>whnf);refine Cd h (fun _=>rfl) fun _ h=>?_;refine⟨_,rfl,?_⟩;refine⟨_,rfl,?_⟩;exact p4 _ _ wk h
 rintro v1 h;exact fin h
theorem Hu {a0:Int}{a1:List Int}{r:Bool}(h:Df a0 a1=some r):yC wl 199 [AV.d (D.i a0),AV.d (D.l 1 D.i a1)] [] (.d (D.b r)) []:=by
 refine oK Tryz.f199 ⟨rfl,?_⟩;unfold Df at h;(conv=>whnf);refine AG h (fun v1=>⟨dd 4 (yb v1::dd 9 ([])),nn 14 ([])⟩) ?_ ?_
 ·intro _ h;refine AD h (fun _=>KO) fun _ h=>?_;refine Ae h fun h=>?_;refine AD h (fun _=>KR) fun _ h=>?_;exact AH h
 rintro v1 h;exact fin h
theorem OS {a0:JAC}{r:Bool}(h:FQ a0=some r):yC wl 172 [AV.d (JAC.toD a0)] [] (.d (D.b r)) []:=by
 refine oK Tryz.f172 ⟨rfl,?_⟩;unfold FQ at h;refine⟨rfl,?_⟩;refine Ry h (fun _=>Hu) fun _ h=>?_;exact fin h
theorem F2 {a0:List Int}{r:Int}(h:Ep a0=some r):yC wl 200 [AV.d (D.l 1 D.i a0)] [] (.d (D.i r)) []:=by
 refine oK Tryz.f200 ⟨rfl,?_⟩;unfold Ep at h;refine⟨a0.length,X10 _,?_⟩;refine AG h (fun _=>⟨X::X::X::yi 0::dd 14 ([]),nn 18 ([])⟩) ?_ ?_
 ·intro _ h;revert h;refine AM 6 1 D.i rfl (fun i1 _=>⟨X::X::X::yi 0::X::X::y0 a0::yi (a0.length:Int)::yi (i1:Int)::dd 9 ([]),nn 18 ([])⟩) ?_ ?_ ?_
  ·exact wk
  ·rintro _ K2 h;refine goC ?_;refine Ax BV ?_;exact AH h
  rintro _ i1 x3 _ K2 b1 c1 e1 h p4;refine goC ?_;refine Ar (BO b1) ?_;refine goC ?_;refine⟨Aq (f:=D.i) b1,D.i x3,c1,rfl,?_⟩;refine goC ?_;refine AP h ?_ ?_<;>intro h
  ·exact fin h
  refine⟨_,e1,?_⟩;exact p4 _ _ wk h
 rintro _ h;exact fin h
theorem JI {a0:Int}{r:Bool}(h:cmp_isNaN_int a0=some r):yC wl 218 [AV.d (D.i a0)] [] (.d (D.b r)) []:=by
 refine oK Tryz.f218 ⟨rfl,?_⟩;unfold cmp_isNaN_int at h;exact fin h
theorem BU {a0:Int}{a1:Int}{r:Int}(h:cmp_Compare_int a0 a1=some r):yC wl 201 [AV.d (D.i a0),AV.d (D.i a1)] [] (.d (D.i r)) []:=by
 refine oK Tryz.f201 ⟨rfl,?_⟩;unfold cmp_Compare_int at h;(conv=>whnf);refine AD h (fun _=>JI) fun _ h=>?_;refine AD h (fun _=>JI) fun _ h=>?_;refine goC ?_;refine AP h ?_ ?_<;>intro h
 ·refine goC ?_;refine AP h ?_ ?_<;>intro h
  ·exact fin h
  exact fin h
 refine goC ?_;refine AP h ?_ ?_<;>intro h
 ·exact fin h
 refine goC ?_;refine AP h ?_ ?_<;>intro h
 ·exact fin h
 refine goC ?_;refine AP h ?_ ?_<;>intro h
 ·exact fin h
 exact fin h
theorem Kz {a0:JAC}{a1:JAC}{r:Int}(h:D5 a0 a1=some r):yC wl 173 [AV.d (JAC.toD a0),AV.d (JAC.toD a1)] [] (.d (D.i r)) []:=by
 refine oK Tryz.f173 ⟨rfl,?_⟩;unfold D5 at h;(conv=>whnf);refine .inl (dO ?_);refine Ah h (fun _=>BU) (fun _=>rfl) fun _ h=>?_;refine Ah h (fun _=>BU) (fun _=>rfl) fun _ h=>?_;refine⟨rfl,?_⟩;refine Ah h (fun _=>F2) (fun _=>rfl) fun _ h=>?_;refine cO ?_;exact fin h
theorem Bm {a0:List JAC}{r:Bool}(h:Af a0=some r):yC wl 171 [AV.d (D.l 2 JAC.toD a0),AV.fn 172 [],AV.fn 173 []] [] (.d (D.b r)) []:=by
 refine oK Tryz.f171 ⟨rfl,?_⟩;unfold Af at h;refine⟨a0.length,X10 _,?_⟩;refine AG h (fun _=>⟨y2 a0::dd 38 ([]),nn 39 ([])⟩) ?_ ?_
 ·intro _ h;revert h;refine AM 9 2 JAC.toD rfl (fun i1 _=>⟨y2 a0::AV.fn 172 []::AV.fn 173 []::dd 6 (y2 a0::yi (a0.length:Int)::yi (i1:Int)::dd 27 ([])),nn 39 ([])⟩) ?_ ?_ ?_
  ·exact wk
  ·rintro _ K2 h;refine goC ?_;refine Ax BV ?_;exact AH h
  rintro _ i1 x3 _ K2 b1 c1 e1 h p4;refine goC ?_;refine Ar (BO b1) ?_;refine goC ?_;refine⟨Aq (f:=JAC.toD) b1,JAC.toD x3,c1,rfl,?_⟩;refine AG h (fun v5=>⟨y2 a0::AV.fn 172 []::AV.fn 173 []::dd 6 (y2 a0::yi (a0.length:Int)::yi (i1:Int)::dd 22 (yb v5::dd 4 ([]))),nn 39 ([])⟩) ?_ ?_
  ·intro _ h;refine .inl (dO ?_);refine Ah h (fun _=>OS) (fun _=>rfl) fun _ h=>?_;refine AP h ?_ ?_<;>intro h
   ·refine cO ?_;exact AH h
   refine AP h ?_ ?_<;>intro h
   ·refine⟨_,rfl,?_⟩;(conv=>whnf);refine Cd h (fun _=>rfl) fun _ h=>?_;refine Ah h (fun _=>Kz) (fun _=>rfl) fun _ h=>?_;refine cO ?_;exact AH h
   refine cO ?_;exact AH h
  rintro v5 h;refine goC ?_;refine AP h ?_ ?_<;>intro h
  ·exact fin h
  refine⟨_,e1,?_⟩;exact p4 _ _ wk h
 rintro _ h;refine⟨a0.length,X10 _,?_⟩;exact fin h
theorem IT {a0:List JAC}{r:Bool}(h:Dy a0=some r):yC wl 145 [AV.d (D.l 2 JAC.toD a0)] [] (.d (D.b r)) []:=by
 refine oK Tryz.f145 ⟨rfl,?_⟩;unfold Dy at h;(conv=>whnf);refine AD h (fun _=>Bm) fun _ h=>?_;exact fin h
theorem Js {a0:JAH}{r:Bool}(h:DR a0=some r):yC wl 175 [AV.d (JAH.toD a0)] [] (.d (D.b r)) []:=by
 refine oK Tryz.f175 ⟨rfl,?_⟩;unfold DR at h;refine⟨rfl,?_⟩;refine Ry h (fun _=>Hu) fun _ h=>?_;exact fin h
theorem IY {a0:JAH}{a1:JAH}{r:Int}(h:CC a0 a1=some r):yC wl 176 [AV.d (JAH.toD a0),AV.d (JAH.toD a1)] [] (.d (D.i r)) []:=by
 refine oK Tryz.f176 ⟨rfl,?_⟩;unfold CC at h;(conv=>whnf);refine .inl (dO ?_);refine Ah h (fun _=>BU) (fun _=>rfl) fun _ h=>?_;refine Ah h (fun _=>BU) (fun _=>rfl) fun _ h=>?_;refine Ah h (fun _=>BU) (fun _=>rfl) fun _ h=>?_;refine⟨rfl,?_⟩;refine Ah h (fun _=>F2) (fun _=>rfl) fun _ h=>?_;refine cO ?_;exact fin h
end Go.AX.Q24
end
section
namespace Go.AX.Q24
open Go Go.AX Go.Proofs
def Uc:FuncId->Bool:=fun f=>(match Nat.beq f 153 with | true=>true | false=>(match Nat.beq f 151 with | true=>true | false=>(match Nat.beq f 121 with | true=>true | false=>(match Nat.beq f 118 with | true=>true | false=>(match Nat.beq f 92 with | true=>true | false=>(match Nat.beq f 92 with | true=>true | false=>(match Nat.beq f 90 with | true=>true | false=>(match Nat.beq f 90 with | true=>true | false=>(match Nat.beq f 54 with | true=>true | false=>(match Nat.beq f 54 with | true=>true | false=>(match Nat.beq f 51 with | true=>true | false=>(match Nat.beq f 51 with | true=>true | false=>Ti f))))))))))))
theorem XU {wl:Prop}{f:FuncId}(ex:Nat)(fn:Func){args:List AV}{objs:List OB}{res:AV}{objs':List OB}
  (hf : Tryz.prog.funcs[f]? = some fn) (hn : (fn.name == "runtime.NumGoroutine") = false) (h : Wz (mcx (Wl wl) Tryz.prog tt keep Uc ex objs.length) fn args objs fun r o => r = res ∧ o = objs') : A4 (Wl wl) Tryz.prog f args objs res objs' :=
 ZO Vf (by kernel_rfl) keep Uc ex hf hn h
theorem J7 {wl:Prop}{f:FuncId}(fn:Func)(np:Nat){args:List AV}{ob:List (Option OB)}{K:AV->List (Option OB)->Prop}
  (hf : Tryz.prog.funcs[f]? = some fn) (hn : (fn.name == "runtime.NumGoroutine") = false) (h : bB (mcx (Wl wl) Tryz.prog tt keep Uc 0 np) fn args ob K) : Uz (Wl wl) Tryz.prog f args ob K :=
 ZJ Vf (by kernel_rfl) keep Uc np hf hn h
end Go.AX.Q24
end
