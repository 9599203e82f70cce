/-
  Texts of one proof, packed.
-/
import Derived.Test.YtbohbnpaadcfmaaGreatDoorKG5
import Derived.KernelRfl
set_option linter.all false
set_option maxRecDepth 100000
set_option maxHeartbeats 4000000
open List renaming length_append→X11,length_cons→X12,length_nil→X13,mem_singleton→X14,getElem?_eq_getElem→X15,getElem?_eq_some_iff→X16,length_drop→X17,length_take→X18,mem_cons_of_mem→X19,length_replicate→X20,length_singleton→X22,mem_append→X23
open Option.some renaming inj→X25
open Bool renaming and_eq_true→X27,eq_iff_iff→X28
open Nat renaming mul_le_mul_right→X31,add_mul→X32
section
namespace Go.AX.Q19
open Go Go.AX
def KC (n:Int):Bool:=decide (1<=n)&&decide (n<=4294967295)
def Qf (s:JAE):Bool:=decide (s.ASNs.length≠0)&&(s.ASNs.all KC&&chainB (fun a b=>!s.Set || ltI a b) s.ASNs)
def sgl (a b:JAE):Bool:=b.Set || a.Set
def tot (p:List JAE):Nat:=p.foldl (fun n s=>n+s.ASNs.length) 0
theorem Xv (p:List JAE)(n:Nat):p.foldl (fun n s=>n+s.ASNs.length) n=n+tot p:=by
 unfold tot
 induction p generalizing n with
 | nil=>rfl
 | cons s t ih=>rw[List.foldl_cons,List.foldl_cons,ih,ih (0+_)];omega
theorem Du (s:JAE)(p:List JAE):tot (s::p)=s.ASNs.length+tot p:=by
 conv=>lhs;unfold tot
 rw[List.foldl_cons,Xv];omega
theorem K9 (p q:List JAE):tot (p++q)=tot p+tot q:=by
 induction p with
 | nil=>rw[List.nil_append];exact (Nat.zero_add _).symm
 | cons s t ih=>rw[List.cons_append,Du,Du,ih];omega
theorem Yd {p:List JAE}{s:JAE}(h:s∈p):s.ASNs.length<=tot p:=by
 induction p with
 | nil=>simp at h
 | cons x t ih=>
  rw[Du]
  rcases List.mem_cons.1 h with rfl | h
  ·omega
  have:=ih h;omega
def Fv (p:List JAE):Bool:=p.all Qf&&chainB sgl p&&decide (tot p<=64)
theorem VH :∀(p:List JAE) (n:Nat),n+tot p<=1000000000->p.foldl (fun (v:Int) s=>AS (v+(s.ASNs.length:Int))) (n:Int)=((n+tot p:Nat):Int)
 | [],n,_=>rfl
 | s::t,n,h=>by
  rw[Du] at h
  rw[List.foldl_cons,Du,AQ (by omega),show (n:Int)+(s.ASNs.length:Int)=((n+s.ASNs.length:Nat):Int) by omega,VH t _ (by omega)]
  congr 1
  omega
theorem Vv {s:JAE}(hl:s.ASNs.length<=1000000000){K:Unit->Option Bool}{body:(Unit->Option Bool)->Int->Nat->Unit->Option Bool}
  (hb :∀next x i,body next x i ()=AI (τ:=Bool) (fun k14=>if (!KC x)=true then k14 true else if s.Set=true then if (cond true (decide ((i:Int) > 0)) false)=true then Option.bind (geti s.ASNs (AS ((i:Int)-1))) fun v15=>k14 (cond false true (cond true (decide (v15 ≥ x)) false)) else k14 false else k14 false) fun v16=>if v16=true then some false else next ()) :
  Ak K body s.ASNs 0 ()=if s.ASNs.all KC&&chainB (fun a b=>!s.Set || ltI a b) s.ASNs then K () else some false:=by
 refine YB (by omega) (fun next x _=>?_) fun next x y i _ _ hg=>?_
 ·rw[hb,AH]
  cases KC x<;>cases s.Set<;>rfl
 rw[hb,AH,hg,AC]
 have e:decide (((i+1:Nat):Int) > 0)=true:=by simp
 have e2:decide (y ≥ x)=!ltI y x:=by unfold ltI;rw[X28];simp
 rw[e,e2]
 cases KC x<;>cases s.Set<;>cases ltI y x<;>rfl
theorem QE {p:List JAE}(hl:p.length<=1000000000)(ht:tot p<=1000000000){body:(Int->Option Bool)->JAE->Nat->Int->Option Bool}{inner:JAE->(Unit->Option Bool)->Int->Nat->Unit->Option Bool}
  (hb :∀next x i v,body next x i v=AI (τ:=Unit) (fun k6=>AI (τ:=Bool) (fun k7=>if ((x.ASNs.length:Int)==0)=true then k7 true else if (decide ((i:Int) > 0))=true then if (cond true (!x.Set) false)=true then Option.bind (geti p (AS ((i:Int)-1))) fun v8=>k7 (cond false true (cond true (!v8.Set) false)) else k7 false else k7 false) fun v9=>if v9=true then some false else AI (τ:=Unit) (fun k10=>Ak (σ:=Unit) (fun _=>k10 ()) (inner x) x.ASNs 0 ()) fun _=>k6 ()) fun _=>next (AS (v+(x.ASNs.length:Int))))
  (hi :∀s next x i,inner s next x i ()=AI (τ:=Bool) (fun k14=>if (!KC x)=true then k14 true else if s.Set=true then if (cond true (decide ((i:Int) > 0)) false)=true then Option.bind (geti s.ASNs (AS ((i:Int)-1))) fun v15=>k14 (cond false true (cond true (decide (v15 ≥ x)) false)) else k14 false else k14 false) fun v16=>if v16=true then some false else next ()) :
  (AI (τ:=Int) (fun k1=>Ak (σ:=Int) (fun v=>k1 v) body p 0 0) fun v=>some (decide (v<=64)))=some (Fv p):=by
 rw[AH]
 have hin :∀s∈p,∀K:Unit->Option Bool,Ak K (inner s) s.ASNs 0 ()=if s.ASNs.all KC&&chainB (fun a b=>!s.Set || ltI a b) s.ASNs then K () else some false:=fun s hs K=>Vv (by have:=Yd hs;omega) (hi s)
 refine (Zg (g:=fun (v:Int) s=>AS (v+(s.ASNs.length:Int))) (ok:=Qf) (lt:=sgl) (F:=some false) (by omega) (fun next x v hx=>?_) fun next x y i v hx _ hg=>?_).trans ?_
 ·rw[hb,AH,AH]
  unfold Qf
  by_cases h0:x.ASNs.length=0
  ·have e:((x.ASNs.length:Int)==0)=true:=by simp[h0]
   rw[if_pos e]
   simp[h0]
  have e:¬ ((x.ASNs.length:Int)==0)=true:=by simpa using h0
  rw[if_neg e,if_neg (by simp)]
  show (if false=true then _ else _)=_
  rw[if_neg (by decide),AH,hin x hx]
  simp only[h0,ne_eq,not_false_eq_true,decide_true,Bool.true_and]
 ·rw[hb,AH,AH,hg]
  unfold Qf sgl
  by_cases h0:x.ASNs.length=0
  ·have e:((x.ASNs.length:Int)==0)=true:=by simp[h0]
   rw[if_pos e]
   simp[h0]
  have e:¬ ((x.ASNs.length:Int)==0)=true:=by simpa using h0
  have e2:decide (((i+1:Nat):Int) > 0)=true:=by simp
  rw[if_neg e,if_pos e2,AC,AH,hin x hx]
  simp only[h0,ne_eq,not_false_eq_true,decide_true,Bool.true_and]
  generalize (x.ASNs.all KC&&chainB (fun a b=>!x.Set || ltI a b) x.ASNs)=c
  cases x.Set<;>cases y.Set<;>cases c<;>rfl
 have hs:=VH p 0 (by omega)
 rw[Nat.zero_add] at hs
 have hs:p.foldl (fun (v:Int) s=>AS (v+(s.ASNs.length:Int))) 0=(tot p:Int):=hs
 rw[hs]
 unfold Fv
 have e:decide ((tot p:Int)<=64)=decide (tot p<=64):=by rw[X28];simp;omega
 simp only[e]
 generalize (p.all Qf&&chainB sgl p)=c
 cases c<;>rfl
theorem Gq {p:List JAE}(hl:p.length<=1000000000)(ht:tot p<=1000000000):EC p=some (Fv p):=by
 unfold EC
 refine QE hl ht (fun next x i v=>rfl) fun s next x i=>?_
 have e:(!KC x)=(decide (x < 1) || decide (x > 4294967295)):=by unfold KC;rw[X28];simp<;>omega
 rw[AH,AH,e]
 cases decide (x < 1)<;>cases decide (x > 4294967295)<;>rfl
theorem NW {p:List JAE}(hl:p.length<=1000000000)(ht:tot p<=1000000000):FB p=some (Fv p):=by
 unfold FB
 refine QE hl ht (fun next x i v=>rfl) fun s next x i=>?_
 rw[number_eq]
 rfl
theorem WR {p:List JAE}(hl:p.length<=1000000000)(ht:tot p<=1000000000):UM p=Fv p:=by
 unfold UM
 rw[Gq hl ht];rfl
theorem SR (p:List JAE)(b:Bool){m:List Int}(hm:m.length<=1000000):(Q1 p b m).length<=p.length+1/\tot (Q1 p b m)<=tot p+m.length:=by
 unfold Q1
 cases b
 ·simp only[Bool.false_eq_true,if_false]
  rcases List.eq_nil_or_concat p with rfl | ⟨q,s,rfl⟩
  ·exact⟨by simp,by simp[tot]⟩
  rw[List.concat_eq_append]
  simp only[List.getLast?_concat,List.dropLast_concat]
  split
  ·rw[K9,Du]
   exact⟨by simp,by simp[tot]⟩
  rw[K9,Du,K9,Du]
  exact⟨by simp,by simp[tot];omega⟩
 simp only[if_true]
 rw[K9,Du]
 have:=YT hm
 exact⟨by simp,by simp only[tot,List.foldl_nil];omega⟩
theorem OV :∀(n:Nat) (b:List UInt8) (p q:List JAE),b.length<=1000000->ON n b p=some q->q.length<=p.length+b.length/\tot q<=tot p+b.length
 | n,[],p,q,_,h=>by
  rw[V1] at h
  obtain rfl:=X25 h
  exact⟨Nat.le_refl _,Nat.le_refl _⟩
 | n+1,[x],p,q,_,h=>by simp[ON] at h
 | n+1,k::c::t,p,q,hb,h=>by
  simp only[X12] at hb
  simp only[ON] at h
  split at h
  ·cases h
  rename_i hk
  have h1:=OV n _ _ _ (by simp only[X17];omega) h
  have hn:(nums (t.take (4*c.toNat))).length=c.toNat:=by rw[PO,X18];omega
  have hc:=c.toNat_lt
  have h2:=SR p (k.toNat==1) (m:=nums (t.take (4*c.toNat))) (by omega)
  simp only[X17] at h1
  simp only[X12]
  omega
 | 0,x::b,p,q,_,h=>by
  have:ON 0 (x::b) p=none:=by cases b<;>rfl
  rw[this] at h;simp at h
theorem Xp {b:List UInt8}{q:List JAE}(hb:b.length<=1000000)(h:rdL b []=some q):q.length<=1000000/\tot q<=1000000:=by
 have:=OV _ _ _ _ hb h
 simp only[X13,tot,List.foldl_nil] at this
 unfold tot
 omega
section
variable {ρ:Type} {F:Option ρ} {next:Int×Bool×UInt64×UInt64×Int×Int×Int×(List JAE)×(List JAB)×(List JAF)->Option ρ} {x:JAA} {a:JAC}
end
end Go.AX.Q19
end
section
namespace Go.AX.Q19
open Go Go.AX
section
variable {ρ:Type} {F:Option ρ} {next:Int×(List JAE)×Bool×UInt64×UInt64×Int×Int×Int×(List JAB)×(List JAF)->Option ρ} {x:JAA} {a:JAC}
end
end Go.AX.Q19
end
section
namespace Go.AX.Q19
open Go Go.AX
def WP (l:List JAA):Prop:=l.Pairwise fun a b=>a.Type_≠b.Type_
structure Fit (l:List JAA)(a:JAC):Prop where
 d:WP l
 z :∀x∈l,x.Data.length<=1000000
 p :∀x∈l,x.Type_=2->a.Path=[]
 c :∀x∈l,x.Type_=8->a.Communities=[]
 l :∀x∈l,x.Type_=32->a.JAF=[]
theorem Tc {a a':JAC}{x:JAA}(h:stepS a x=some a'):(x.Type_≠2->a'.Path=a.Path)/\(x.Type_≠8->a'.Communities=a.Communities)/\(x.Type_≠32->a'.JAF=a.JAF)/\a'.Other=a.Other:=by
 unfold stepS at h
 split at h
 ·obtain rfl:=X25 h
  exact⟨fun _=>rfl,fun _=>rfl,fun _=>rfl,rfl⟩
 split at h
 ·unfold W5 at h
  rcases Hj x.Type_ with ⟨e,_⟩|⟨e,_⟩|⟨e,_⟩|⟨e,_⟩|⟨e,_⟩|⟨e,_⟩|⟨e,_⟩|⟨e,_⟩|⟨e1,e2,e3,e4,e5,e6,e7,e8,_⟩
  iterate 8
   ·rw[e] at h ⊢
    obtain⟨v,_,rfl⟩:=Option.map_eq_some_iff.1 h
    exact⟨fun q=>by first | rfl | exact absurd rfl q,fun q=>by first | rfl | exact absurd rfl q,fun q=>by first | rfl | exact absurd rfl q,rfl⟩
  rw[if_neg e1,if_neg e2,if_neg e3,if_neg e4,if_neg e5,if_neg e6,if_neg e7,if_neg e8] at h
  obtain rfl:=X25 h
  exact⟨fun _=>rfl,fun _=>rfl,fun _=>rfl,rfl⟩
 simp at h
theorem Fit.next {x:JAA}{t:List JAA}{a a':JAC}(f:Fit (x::t) a)(h:stepS a x=some a'):Fit t a':=by
 obtain⟨k1,k2,k3,_⟩:=Tc h
 obtain⟨d1,d2⟩:=List.pairwise_cons.1 f.d
 exact⟨d2,fun y hy=>f.z y (X19 _ hy),fun y hy e=>(k1 (e ▸ d1 y hy)).trans (f.p y (X19 _ hy) e),
  fun y hy e=>(k2 (e ▸ d1 y hy)).trans (f.c y (X19 _ hy) e),fun y hy e=>(k3 (e ▸ d1 y hy)).trans (f.l y (X19 _ hy) e)⟩
def conv (x:JAA):JAA:=⟨224,x.Type_,x.Data⟩
def Hk (x:JAA):List Int:=[x.Type_]
theorem Hh (a b:JAA):(Hk a).length=(Hk b).length:=rfl
theorem WM {α:Type}{R:α->α->Prop}{c:Bool}{x:α}:(if c=true then [x] else []).Pairwise R:=by
 cases c
 ·exact .nil
 exact List.pairwise_singleton _ _
def eA:JAC:=⟨(-1),[],(⟨false,(0:UInt64),(0:UInt64)⟩:Addr),(-1),(-1),(-1),[],[],[]⟩
theorem N5 {α β:Type}{g:α->List β}(hg :∀x,(g x).length<=1) :∀l:List α,(l.flatMap g).length<=l.length
 | []=>by simp
 | x::t=>by
  rw[List.flatMap_cons,X11,X12]
  have:=N5 hg t
  have:=hg x
  omega
theorem SO (a b:JAA):Ha a b=some (Ef (Hk a) (Hk b)):=by
 unfold Ha Hk
 rw[JY,AC]
 unfold WW Ef Ef
 rfl
def sizeOf (b:List UInt8)(h:Nat):Nat:=val ((b.drop 2).take (h-2))
instance (a0:Addr):Tt (DG a0):=by unfold DG;exact Tt.auto
instance (a0:Addr):Tt (DC a0):=by unfold DC;exact Tt.auto
instance (a0:List UInt8):Tt (CE a0):=by unfold CE;exact Tt.auto
instance (a0:Int):Tt (BF a0):=by unfold BF;exact Tt.auto
instance (a0:Int):Tt (CU a0):=by unfold CU;exact Tt.auto
instance (a0:JAB):Tt (Df a0):=by unfold Df;exact Tt.auto
instance (a0:JAB) (a1:JAB):Tt (Dj a0 a1):=by unfold Dj;exact Tt.auto
instance (a0:JAF):Tt (BU a0):=by unfold BU;exact Tt.auto
instance (a0:JAF) (a1:JAF):Tt (BQ a0 a1):=by unfold BQ;exact Tt.auto
instance (a0:List JAB) (a1:JAB):Tt (FS a0 a1):=by unfold FS;exact Tt.auto
instance (a0:List JAF) (a1:JAF):Tt (Ce a0 a1):=by unfold Ce;exact Tt.auto
instance:Tt (Db):=by unfold Db;exact Tt.auto
instance (a0:List JAB) (a1:List JAB):Tt (Dl a0 a1):=by unfold Dl;exact Tt.auto
instance (a0:List JAF) (a1:List JAF):Tt (BP a0 a1):=by unfold BP;exact Tt.auto
instance (a0:List JAA) (a1:List JAA):Tt (Bc a0 a1):=by unfold Bc;exact Tt.auto
instance (a0:Addr):Tt (B2 a0):=by unfold B2;exact Tt.auto
instance (a0:Int):Tt (EV a0):=by unfold EV;exact Tt.auto
instance (a0:Addr) (a1:Int):Tt (Do a0 a1):=by unfold Do;exact Tt.auto
theorem U3 {a k:Nat}(ha:a<2^64)(hk:k<=64):(BitVec.ofInt 64 (a:Int) &&& ~~~BitVec.ofInt 64 ((2^k-1:Nat):Int)).toNat=a/2^k*2^k:=by
 apply Nat.eq_of_testBit_eq
 intro i
 rw[BitVec.ofInt_natCast,BitVec.ofInt_natCast,BitVec.testBit_toNat]
 simp only[BitVec.getLsbD_and,BitVec.getLsbD_not,BitVec.getLsbD_ofNat,Nat.testBit_mul_two_pow,Nat.testBit_div_two_pow,Nat.testBit_two_pow_sub_one]
 by_cases hi:i<64
 ·by_cases hki:k<=i
  ·simp[hi,hki,Nat.not_lt.2 hki]
  simp[hi,hki,Nat.lt_of_not_le hki]
 have:a.testBit i=false:=Nat.testBit_lt_two_pow (Nat.lt_of_lt_of_le ha (Nat.pow_le_pow_right (by omega) (by omega)))
 by_cases hki:k<=i
 ·simp[hi,hki,this]
 omega
theorem A8 (n:Nat):AN (n:Int)=UInt64.ofNat n:=by
 unfold AN
 apply UInt64.toNat_inj.1
 simp only[UInt64.toNat_ofNat']
 omega
def Addr.n (a:Addr):Nat:=a.Hi.toNat*2^64+a.Lo.toNat
def Addr.w (a:Addr):Nat:=if a.V6 then 128 else 32
def Addr.ok (a:Addr):Bool:=cond a.V6 true (cond ((a.Hi.toNat:Int)==0) (decide ((a.Lo.toNat:Int)<4294967296)) false)
def mkA (v6:Bool)(n:Nat):Addr:=⟨v6,UInt64.ofNat (n/2^64),UInt64.ofNat n⟩
def Addr.cut (a:Addr)(n:Nat):Addr:=mkA a.V6 (a.n/2^(a.w-n)*2^(a.w-n))
theorem Wy (b:Bool)(m:Nat):(mkA b m).V6=b:=by unfold mkA;rfl
theorem UI (a:Addr)(n:Nat):(a.cut n).V6=a.V6:=Wy _ _
theorem bD (h l k:Nat)(hl:l<2^64)(hk:k<=64):(h*2^64+l)/2^k*2^k=h*2^64+l/2^k*2^k:=by
 have:(2:Nat)^64=2^(64-k)*2^k:=by rw[<- Nat.pow_add];congr 1;omega
 rw[this,<- Nat.mul_assoc,Nat.add_comm,Nat.add_mul_div_right _ _ (Nat.two_pow_pos k),X32,Nat.add_comm]
theorem Yp:AN (((0:Nat):Int)-1)=UInt64.ofNat 18446744073709551615:=by
   unfold AN
   congr 1
theorem Zc {k:Nat}(hk:k<64):AN (((UInt64.ofNat (2^k)).toNat:Int)-1)=UInt64.ofNat (2^k-1):=by
  have h3:(2:Nat)^k<2^64:=Nat.pow_lt_pow_right (by omega) (by omega)
  have h4:0<(2:Nat)^k:=Nat.two_pow_pos k
  have h5:(UInt64.ofNat (2^k)).toNat=2^k:=by simp only[UInt64.toNat_ofNat'];omega
  rw[h5]
  have h6:((2^k:Nat):Int)-1=((2^k-1:Nat):Int):=by omega
  rw[h6,A8]
theorem Yu:AN (((UInt64.ofNat (2^64)).toNat:Int)-1)=UInt64.ofNat (2^64-1):=by
  have h5:(UInt64.ofNat (2^64)).toNat=0:=by simp only[UInt64.toNat_ofNat',Nat.mod_self]
  rw[h5]
  exact Yp
theorem Yt {k:Nat}(hk:k<=64):AN (1*(2^(min (Int.toNat ((AN (k:Int)).toNat:Int)) 64)))=UInt64.ofNat (2^k):=by
 rw[A8]
 have h1:(UInt64.ofNat k).toNat=k:=by simp;omega
 rw[h1,Int.toNat_natCast,Nat.min_eq_left hk,Int.one_mul]
 have h2:((2:Int)^k)=((2^k:Nat):Int):=by simp
 rw[h2,A8]
theorem Ti {k:Nat}(hk:k<=64):AN (((AN (1*(2^(min (Int.toNat ((AN (k:Int)).toNat:Int)) 64)))).toNat:Int)-1)=UInt64.ofNat (2^k-1):=by
 rw[Yt hk]
 rcases Nat.lt_or_eq_of_le hk with h | h
 ·exact Zc h
 rw[h];exact Yu
theorem Kp {x:UInt64}{k:Nat}(hk:k<=64):AN ((BitVec.ofInt 64 (x.toNat:Int) &&& ~~~BitVec.ofInt 64 ((UInt64.ofNat (2^k-1)).toNat:Int)).toNat:Int)=UInt64.ofNat (x.toNat/2^k*2^k):=by
 have h:(UInt64.ofNat (2^k-1)).toNat=2^k-1:=by
  have:(2:Nat)^k<=2^64:=Nat.pow_le_pow_right (by omega) hk
  have h4:0<(2:Nat)^k:=Nat.two_pow_pos k
  simp only[UInt64.toNat_ofNat'];omega
 rw[h,U3 x.toNat_lt hk,A8]
theorem Na (a:Addr){n:Nat}(hn:n<=a.w):Do a (n:Int)=some (a.cut n):=by
 have hw:B2 a=some (a.w:Int):=by unfold B2 Addr.w;split<;>rfl
 have hwn:AS ((a.w:Int)-(n:Int))=((a.w-n:Nat):Int):=by
  have:a.w<=128:=by unfold Addr.w;split<;>omega
  rw[AQ (by omega)];omega
 have hlo:=a.Lo.toNat_lt
 have hhi:=a.Hi.toNat_lt
 unfold Do
 rw[hw,AC,hwn]
 have hk128:a.w-n<=128:=by unfold Addr.w;split<;>omega
 generalize hk:a.w-n=k at *
 unfold EV
 by_cases h64:k > 64
 ·rw[if_pos (by simp;omega),AC]
  have e:AS ((k:Int)-64)=((k-64:Nat):Int):=by rw[AQ (by omega)];omega
  rw[e,Ti (by omega)]
  simp only[Kp (show k-64<=64 by omega)]
  have h1:(18446744073709551615:UInt64)=UInt64.ofNat (2^64-1):=rfl
  rw[h1,Kp (Nat.le_refl 64)]
  have h0:a.Lo.toNat/2^64=0:=Nat.div_eq_of_lt hlo
  unfold Addr.cut mkA Addr.n
  rw[hk]
  have hsplit:(2:Nat)^k=2^64*2^(k-64):=by rw[<- Nat.pow_add];congr 1;omega
  have hd:(a.Hi.toNat*2^64+a.Lo.toNat)/2^k=a.Hi.toNat/2^(k-64):=by
   rw[hsplit,<- Nat.div_div_eq_div_mul,Nat.add_comm,Nat.add_mul_div_right _ _ (Nat.two_pow_pos 64),h0,Nat.zero_add]
  rw[hd]
  have he:a.Hi.toNat/2^(k-64)*2^k=a.Hi.toNat/2^(k-64)*2^(k-64)*2^64:=by
   rw[hsplit,Nat.mul_comm (2^64),Nat.mul_assoc]
  rw[he,Nat.mul_div_cancel _ (Nat.two_pow_pos 64),h0]
  have e0:UInt64.ofNat (a.Hi.toNat/2^(k-64)*2^(k-64)*2^64)=UInt64.ofNat 0:=by
   apply UInt64.toNat_inj.1
   simp only[UInt64.toNat_ofNat',Nat.mul_mod_left,Nat.zero_mod]
  rw[e0,Nat.zero_mul]
 rw[if_neg (by simp;omega),AC,Ti (by omega)]
 simp only[Kp (show k<=64 by omega)]
 have h1:(0:UInt64)=UInt64.ofNat (2^0-1):=rfl
 rw[h1,Kp (Nat.zero_le 64)]
 unfold Addr.cut mkA Addr.n
 rw[hk,bD _ _ _ hlo (by omega)]
 have hlt:a.Lo.toNat/2^k*2^k<2^64:=Nat.lt_of_le_of_lt (Nat.div_mul_le_self _ _) hlo
 have e1:UInt64.ofNat (a.Hi.toNat/2^0*2^0)=UInt64.ofNat ((a.Hi.toNat*2^64+a.Lo.toNat/2^k*2^k)/2^64):=by
  congr 1
  omega
 have e2:UInt64.ofNat (a.Lo.toNat/2^k*2^k)=UInt64.ofNat (a.Hi.toNat*2^64+a.Lo.toNat/2^k*2^k):=by
  apply UInt64.toNat_inj.1
  simp only[UInt64.toNat_ofNat']
  omega
 rw[e1,e2]
theorem CJ (n:Nat):Ah (n:Int)=UInt8.ofNat n:=by
 unfold Ah
 apply UInt8.toNat_inj.1
 simp only[UInt8.toNat_ofNat']
 omega
def Addr.L (a:Addr):Nat:=if a.V6 then 16 else 4
def Kv (a:Addr)(k:Nat):UInt8:=UInt8.ofNat (a.n/2^(8*k))
theorem EG (a:Addr):DG a=some a.ok:=by
 unfold DG Addr.ok
 rw[AH]
 generalize ((a.Hi.toNat:Int)==0)=x
 generalize decide ((a.Lo.toNat:Int)<4294967296)=y
 generalize a.V6=z
 cases z<;>cases x<;>rfl
theorem UO {w:UInt64}{k:Nat}(hk:k<8) :
  Ah ((AN (Int.fdiv (w.toNat:Int) (2^(min (Int.toNat ((AN (8*((AN (k:Int)).toNat:Int))).toNat:Int)) 64)))).toNat:Int)=UInt8.ofNat (w.toNat/2^(8*k)):=by
 have h1:(AN (k:Int)).toNat=k:=by rw[A8];simp;omega
 have h2:(AN (8*((AN (k:Int)).toNat:Int))).toNat=8*k:=by
  rw[h1]
  have:(8*(k:Int))=((8*k:Nat):Int):=by omega
  rw[this,A8];simp;omega
 have h3:Int.fdiv (w.toNat:Int) ((2:Int)^(8*k))=((w.toNat/2^(8*k):Nat):Int):=by
  have:((2:Int)^(8*k))=((2^(8*k):Nat):Int):=by simp
  rw[this,Int.fdiv_eq_ediv_of_nonneg _ (Int.natCast_nonneg _),Int.natCast_ediv]
 rw[h2,Int.toNat_natCast,Nat.min_eq_left (by omega),h3,A8,CJ]
 have:(UInt64.ofNat (w.toNat/2^(8*k))).toNat=w.toNat/2^(8*k):=by
  have hd:w.toNat/2^(8*k)<2^64:=Nat.lt_of_le_of_lt (Nat.div_le_self _ _) w.toNat_lt
  rw[UInt64.toNat_ofNat',Nat.mod_eq_of_lt hd]
 rw[this]
theorem RX {a b:Nat}(h:a%256=b%256):UInt8.ofNat a=UInt8.ofNat b:=by
 apply UInt8.toNat_inj.1
 simp only[UInt8.toNat_ofNat']
 exact h
theorem R1 {a:Addr}{k:Nat}(hk:k<16)(hv:a.ok=true)(h4:a.V6=false->k<4) :
  UInt8.ofNat ((if k ≥ 8 then a.Hi else a.Lo).toNat/2^(8*(k%8)))=Kv a k:=by
 unfold Kv Addr.n
 have hlo:=a.Lo.toNat_lt
 by_cases h8:k ≥ 8
 ·rw[if_pos h8]
  have e:8*k=64+8*(k%8):=by omega
  rw[e,Nat.pow_add,<- Nat.div_div_eq_div_mul,Nat.add_comm (a.Hi.toNat*2^64),Nat.add_mul_div_right _ _ (Nat.two_pow_pos 64),Nat.div_eq_of_lt hlo,Nat.zero_add]
 rw[if_neg h8]
 have e:k%8=k:=Nat.mod_eq_of_lt (by omega)
 rw[e]
 apply RX
 have e2:(2:Nat)^64=2^(8*k)*2^(64-8*k):=by rw[<- Nat.pow_add];congr 1;omega
 have e3:(2:Nat)^(64-8*k)=256*2^(56-8*k):=by
  have:(256:Nat)=2^8:=rfl
  rw[this,<- Nat.pow_add];congr 1;omega
 have e4:a.Hi.toNat*2^64=a.Hi.toNat*2^(56-8*k)*256*2^(8*k):=by
  rw[e2,e3,Nat.mul_assoc,Nat.mul_assoc]
  congr 1
  rw[Nat.mul_comm (2^(56-8*k)),Nat.mul_comm (2^(8*k))]
  rw[Nat.mul_assoc,Nat.mul_comm (2^(56-8*k)),Nat.mul_assoc]
 rw[e4,Nat.add_comm,Nat.add_mul_div_right _ _ (Nat.two_pow_pos _),Nat.add_mul_mod_self_right]
theorem Gy {a:Addr}(hv:a.ok=true):Ok (BG a) fun l=>l.length=a.L/\∀j,j<a.L->l[j]?=some (Kv a (a.L-1-j)):=by
 unfold BG
 rw[EG,AC,hv]
 refine .ite (fun h=>by simp at h) fun _=>?_
 refine .join (fun n:Int=>n=a.L) (fun k hk=>.ite (fun h=>hk _ (by unfold Addr.L;rw[if_pos h];rfl)) fun h=>hk _ (by unfold Addr.L;rw[if_neg h];rfl)) fun n hn=>?_
 have hL:a.L=16\/a.L=4:=by unfold Addr.L;split<;>simp
 subst hn
 refine .join (fun l:List UInt8=>l.length=a.L/\∀j,j<a.L->l[j]?=some (Kv a (a.L-1-j))) (fun k hk=>?_) fun l hl=>.ret hl
 refine .whileI (fun s:Int×List UInt8=>-1<=s.1/\s.1=a.L-1-s.2.length/\∀j,j<s.2.length->s.2[j]?=some (Kv a (a.L-1-j))) (fun s=>(s.1+1).toNat) ?_ ?_ ?_
 ·rw[AQ (by omega)];simp;omega
 ·rw[AQ (by omega)];exact Be (by omega)
 rintro next ⟨p,l⟩ ⟨h1,h2,h3⟩ hn
 simp only at h1 h2 h3
 refine .ite (fun h=>?_) fun h=>hk _ ⟨by simp at h;omega,fun j hj=>h3 j (by simp at h;omega)⟩
 simp only[decide_eq_true_eq] at h
 obtain⟨k,rfl⟩ :∃k:Nat,p=k:=⟨p.toNat,by omega⟩
 refine .join (fun w:UInt64=>w=if k ≥ 8 then a.Hi else a.Lo) (fun k' hk'=>.ite (fun h=>hk' _ (by rw[if_pos (by simp at h;omega)]) ) fun h=>hk' _ (by rw[if_neg (by simp at h;omega)])) fun w hw=>?_
 refine .bind (Ok.apnd (by decide) (by simp;omega)) fun l' hl'=>?_
 have hb:k<16:=by omega
 have ht:Int.tmod (k:Int) 8=((k%8:Nat):Int):=by rw[Int.tmod_eq_emod_of_nonneg (by omega)];omega
 rw[ht,UO (Nat.mod_lt _ (by omega)),hw,R1 hb hv (fun h4=>by unfold Addr.L at h2;simp[h4] at h2;omega)] at hl'
 subst hl'
 rw[AQ (by omega)]
 refine hn _ ⟨by simp only;omega,by simp;omega,fun j hj=>?_⟩ (by simp only;omega)
 simp only[X11,X22] at hj
 by_cases hj':j<l.length
 ·simp only
  rw[List.getElem?_append_left hj'];exact h3 j hj'
 have:j=l.length:=by omega
 subst this
 simp only[List.getElem?_append_right (Nat.le_refl _),Nat.sub_self,List.getElem?_cons_zero]
 congr 2
 omega
theorem Rm {u v:Nat}(hu:u<2^64)(hv:v<256):AN ((BitVec.ofInt 64 ((AN ((u:Int)*(2^(min (Int.toNat 8) 64)))).toNat:Int) ||| BitVec.ofInt 64 ((AN (v:Int)).toNat:Int)).toNat:Int)=UInt64.ofNat (u*256+v):=by
 have h1:((u:Int)*(2^(min (Int.toNat 8) 64)))=((u*256:Nat):Int):=by
  have:min (Int.toNat 8) 64=8:=rfl
  rw[this];omega
 rw[h1,A8,A8,A8]
 have h2:(UInt64.ofNat v).toNat=v:=by simp only[UInt64.toNat_ofNat'];omega
 have h3:(UInt64.ofNat (u*256)).toNat=2^8*(u%2^56):=by simp only[UInt64.toNat_ofNat'];omega
 rw[h2,h3,BitVec.ofInt_natCast,BitVec.ofInt_natCast,BitVec.toNat_or,BitVec.toNat_ofNat,BitVec.toNat_ofNat,Nat.mod_eq_of_lt (show 2^8*(u%2^56)<2^64 by omega),Nat.mod_eq_of_lt (show v<2^64 by omega),
  ← Nat.two_pow_add_eq_or_of_lt (show v<2^8 by omega)]
 apply UInt64.toNat_inj.1
 simp only[UInt64.toNat_ofNat']
 omega
theorem J9 {l:List UInt8}(hl:l.length=4\/l.length=16):Ok (CE l) fun r=>r=(mkA (l.length==16) (val l%2^128),0):=by
 unfold CE
 refine .join (fun b=>b=false) (fun k hk=>.ite (fun h=>hk _ ?_) fun _=>hk _ rfl) fun b hb=>?_
 ·rcases hl with h' | h'<;>simp[h'] at h ⊢
 subst hb
 refine .ite (fun h=>by simp at h) fun _=>?_
 refine .join (fun a=>a=mkA (l.length==16) (val l%2^128)) (fun k hk=>?_) fun a ha=>.ret (by rw[ha])
 refine .forX (fun i s=>s=mkA (l.length==16) (val (l.take i)%2^128)) ?_ (fun s hs=>hk _ (by rw[hs,List.take_length])) ?_
 ·have:((l.length:Int)==16)=(l.length==16):=by rw[X28];simp only[beq_iff_eq];omega
  rw[this,List.take_zero]
  have e0:val []%2^128=0:=by simp[val]
  rw[e0]
  unfold mkA
  rfl
 rintro next x i s hx rfl hn
 refine hn _ ?_
 have hlt:=(X16.1 hx).1
 have ht:l.take (i+1)=l.take i++[x]:=by rw[List.take_add_one,hx];rfl
 rw[ht,KP]
 generalize val (l.take i)=m
 have hx8:=x.toNat_lt
 have hlo:(mkA (l.length==16) (m%2^128)).Lo.toNat=m%2^64:=by unfold mkA;simp only[UInt64.toNat_ofNat'];omega
 have hhi:(mkA (l.length==16) (m%2^128)).Hi.toNat=m/2^64%2^64:=by unfold mkA;simp only[UInt64.toNat_ofNat'];omega
 have h1:=Rm (u:=m%2^64) (v:=x.toNat) (by omega) hx8
 have h2:=Rm (u:=m/2^64%2^64) (v:=m%2^64/2^56) (by omega) (by omega)
 have h3:Int.fdiv ((m%2^64:Nat):Int) (2^(min (Int.toNat 56) 64))=((m%2^64/2^56:Nat):Int):=by
  have:min (Int.toNat 56) 64=56:=rfl
  have e5:((2:Int)^56)=((2^56:Nat):Int):=by simp
  rw[this,e5,Int.fdiv_eq_ediv_of_nonneg _ (Int.natCast_nonneg _),Int.natCast_ediv]
 rw[hlo,hhi,h3,h1,h2,Wy]
 unfold mkA
 have e1:UInt64.ofNat (m/2^64%2^64*256+m%2^64/2^56)=UInt64.ofNat ((m*256+x.toNat)%2^128/2^64):=by
  apply UInt64.toNat_inj.1;simp only[UInt64.toNat_ofNat'];omega
 have e2:UInt64.ofNat (m%2^64*256+x.toNat)=UInt64.ofNat ((m*256+x.toNat)%2^128):=by
  apply UInt64.toNat_inj.1;simp only[UInt64.toNat_ofNat'];omega
 rw[e1,e2]
theorem Ta :∀(l:List UInt8) (q:Nat),(val l).testBit q=if q<8*l.length then (l.getD (l.length-1-q/8) 0).toNat.testBit (q%8) else false:=by
 intro l
 induction h:l.length generalizing l with
 | zero=>intro q;have:l=[]:=List.eq_nil_of_length_eq_zero h;subst this;simp[val]
 | succ n ih=>
  intro q
  obtain⟨l',x,rfl⟩ :∃l' x,l=l'++[x]:=by
   rcases List.eq_nil_or_concat l with h' | ⟨l',x,h'⟩
   ·subst h';simp at h
   exact⟨l',x,by simpa using h'⟩
  have hl':l'.length=n:=by simpa using h
  rw[KP,Nat.mul_comm,show (256:Nat)=2^8 from rfl,Nat.testBit_two_pow_mul_add _ (show x.toNat<2^8 from x.toNat_lt)]
  by_cases hq:q<8
  ·rw[if_pos hq,if_pos (by omega)]
   have e1:n+1-1-q/8=l'.length:=by omega
   rw[e1,Nat.mod_eq_of_lt hq]
   simp[List.getD_eq_getElem?_getD]
  rw[if_neg hq,ih l' hl']
  by_cases h2:q-8<8*n
  ·rw[if_pos h2,if_pos (by omega)]
   have e1:n-1-(q-8)/8=n+1-1-q/8:=by omega
   have e2:(q-8)%8=q%8:=by omega
   rw[e1,e2,List.getD_eq_getElem?_getD,List.getD_eq_getElem?_getD,List.getElem?_append_left (by omega)]
  rw[if_neg h2,if_neg (by omega)]
theorem WT {x:UInt8}{r:Nat}(hr:r<8){s:Nat}(hs:s<8) :
  (Ah ((BitVec.ofInt 8 (x.toNat:Int) &&& ~~~BitVec.ofInt 8 ((Ah (Int.fdiv 128 (2^(min (Int.toNat ((AN (r:Int)).toNat:Int)) 8)))).toNat:Int)).toNat:Int)).toNat.testBit s=(x.toNat.testBit s&&!decide (7-r=s)):=by
 have h1:(AN (r:Int)).toNat=r:=by rw[A8];simp;omega
 have h2:Int.fdiv 128 ((2:Int)^r)=((2^(7-r):Nat):Int):=by
  have e1:((2:Int)^r)=((2^r:Nat):Int):=by simp
  have e2:(128:Int)=((128:Nat):Int):=rfl
  rw[e1,e2,Int.fdiv_eq_ediv_of_nonneg _ (Int.natCast_nonneg _),<- Int.natCast_ediv]
  congr 1
  have e3:(128:Nat)=2^(7-r)*2^r:=by rw[<- Nat.pow_add,show 7-r+r=7 by omega]
  rw[e3,Nat.mul_div_cancel _ (Nat.two_pow_pos r)]
 rw[h1,Int.toNat_natCast,Nat.min_eq_left (by omega),h2,CJ,CJ,BitVec.ofInt_natCast,BitVec.ofInt_natCast]
 have hp:2^(7-r)<256:=Nat.lt_of_le_of_lt (Nat.pow_le_pow_right (by omega) (show 7-r<=7 by omega)) (by decide)
 have h3:(UInt8.ofNat (2^(7-r))).toNat=2^(7-r):=by simp only[UInt8.toNat_ofNat'];exact Nat.mod_eq_of_lt hp
 rw[h3,UInt8.toNat_ofNat',Nat.testBit_mod_two_pow,BitVec.testBit_toNat]
 simp only[BitVec.getLsbD_and,BitVec.getLsbD_not,BitVec.getLsbD_ofNat,hs,decide_true,Bool.true_and,Nat.testBit_two_pow]
theorem Addr.cut_bit (a:Addr){n q:Nat}(hn:n<=a.w):(a.n/2^(a.w-n)*2^(a.w-n)).testBit q=(a.n.testBit q&&decide (a.w-n<=q)):=by
 rw[Nat.testBit_mul_two_pow,Nat.testBit_div_two_pow]
 by_cases h:a.w-n<=q
 ·simp[h]
 simp[h]
theorem Ws {b c:Bool}(h:cond b c false=true):b=true/\c=true:=by cases b<;>simp at h ⊢;exact h
theorem Addr.ok4 {a:Addr}(hv:a.ok=true)(h6:a.V6=false):a.Hi.toNat=0/\a.Lo.toNat<2^32:=by
 unfold Addr.ok at hv
 rw[h6] at hv
 obtain⟨h1,h2⟩:=Ws hv
 have h2:=of_decide_eq_true h2
 have h1:=eq_of_beq h1
 omega
theorem Addr.n_lt {a:Addr}(hv:a.ok=true):a.n<2^a.w:=by
 have h1:=a.Lo.toNat_lt
 have h2:=a.Hi.toNat_lt
 cases hv6:a.V6
 ·obtain⟨g1,g2⟩:=Addr.ok4 hv hv6
  have hw:a.w=32:=by unfold Addr.w;rw[hv6];rfl
  have hn:a.n=a.Lo.toNat:=by unfold Addr.n;rw[g1,Nat.zero_mul,Nat.zero_add]
  rw[hw,hn];exact g2
 have hw:a.w=128:=by unfold Addr.w;rw[hv6];rfl
 rw[hw]
 unfold Addr.n
 omega
theorem Py {a:Addr}{n:Nat}(hv:a.ok=true)(hn:n<=a.w):Ok (DO a (n:Int)) fun r=>r=(⟨a.cut n,n⟩,0):=by
 have hw:a.w=8*a.L:=by unfold Addr.w Addr.L;split<;>rfl
 have hL:a.L=16\/a.L=4:=by unfold Addr.L;split<;>simp
 unfold DO
 rw[EG,AC,hv]
 refine .ite (fun h=>by simp at h) fun _=>?_
 have hwid:DC a=some (a.w:Int):=by unfold DC Addr.w;split<;>rfl
 refine .join (fun b=>b=false) (fun k hk=>.ite (fun h=>by simp at h;omega) fun _=>?_) fun b hb=>?_
 ·rw[hwid,AC]
  refine hk _ ?_
  simp only[cond_false,decide_eq_false_iff_not]
  omega
 subst hb
 refine .ite (fun h=>by simp at h) fun _=>?_
 refine .bind (Gy hv) fun l hl=>?_
 refine .join (fun l:List UInt8=>l.length=a.L/\val l=a.n/2^(a.w-n)*2^(a.w-n)) (fun k hk=>?_) fun l' hl'=>?_
 ·refine .whileI (fun s:Int×List UInt8=>∃P:Nat,s.1=P/\n<=P/\P<=8*a.L/\s.2.length=a.L/\∀q,q<8*a.L->(s.2.getD (a.L-1-q/8) 0).toNat.testBit (q%8)=(a.n.testBit q&&!decide (8*a.L-P<=q/\q<8*a.L-n)))
   (fun s=>(8*a.L-s.1).toNat) ⟨n,rfl,Nat.le_refl _,by omega,hl.1,fun q hq=>?_⟩ (Be (by simp only;omega)) ?_
  ·have h1:a.L-1-q/8<a.L:=by omega
   have h2:=hl.2 _ h1
   have h3:a.L-1-(a.L-1-q/8)=q/8:=by omega
   have h4:¬ (8*a.L-n<=q/\q<8*a.L-n):=by omega
   rw[List.getD_eq_getElem?_getD,h2,h3]
   simp only[Option.getD_some,h4,decide_false,Bool.not_false,Bool.and_true]
   unfold Kv
   rw[UInt8.toNat_ofNat',Nat.testBit_mod_two_pow,Nat.testBit_div_two_pow,Nat.mod_add_div]
   simp[Nat.mod_lt]
  rintro next ⟨p,l⟩ ⟨P,h1,h2,h3,h4,h5⟩ hnx
  simp only at h1 h4 h5
  subst h1
  have e8:AS (8*(l.length:Int))=((8*a.L:Nat):Int):=by rw[AQ (by omega)];omega
  refine .ite (fun h=>?_) fun h=>hk _ ?_
  ·rw[e8] at h
   simp only[decide_eq_true_eq] at h
   have ed:AS (Int.tdiv (P:Int) 8)=((P/8:Nat):Int):=by
    rw[Int.tdiv_eq_ediv_of_nonneg (by omega),AQ (by omega)];omega
   have et:Int.tmod (P:Int) 8=((P%8:Nat):Int):=by rw[Int.tmod_eq_emod_of_nonneg (by omega)];omega
   have hlt:P/8<l.length:=by omega
   rw[ed,Dw hlt,AC,AC]
   refine .bind (Ok.seti (by omega)) fun l' hl'=>?_
   rw[Int.toNat_natCast,et] at hl'
   rw[AQ (by omega)]
   refine hnx _ ⟨P+1,by simp only;omega,by omega,by omega,by simp only;omega,fun q hq=>?_⟩ (by simp only;omega)
   simp only
   rw[hl'.1]
   by_cases hb:a.L-1-q/8=P/8
   ·have hx:=h5 q hq
    rw[hb,List.getD_eq_getElem?_getD,X15 hlt,Option.getD_some] at hx
    rw[hb,List.getD_eq_getElem?_getD,List.getElem?_set_self (by omega),Option.getD_some,WT (Nat.mod_lt _ (by omega)) (Nat.mod_lt _ (by omega)),hx,Bool.and_assoc]
    congr 1
    rw[X28]
    simp only[X27,Bool.not_eq_true',decide_eq_false_iff_not]
    omega
   have hx:=h5 q hq
   rw[List.getD_eq_getElem?_getD] at hx
   rw[List.getD_eq_getElem?_getD,List.getElem?_set_ne (by omega),hx]
   congr 2
   rw[decide_eq_decide]
   omega
  rw[e8] at h
  simp only[decide_eq_true_eq] at h
  have hP:P=8*a.L:=by omega
  subst hP
  refine⟨h4,?_⟩
  apply Nat.eq_of_testBit_eq
  intro q
  rw[Ta,a.cut_bit hn,h4]
  by_cases hq:q<8*a.L
  ·rw[if_pos hq,h5 q hq]
   congr 1
   rw[X28]
   simp only[Bool.not_eq_true',decide_eq_false_iff_not,decide_eq_true_eq]
   omega
  rw[if_neg hq]
  have:a.n.testBit q=false:=Nat.testBit_lt_two_pow (Nat.lt_of_lt_of_le (Addr.n_lt hv) (Nat.pow_le_pow_right (by omega) (by omega)))
  rw[this,Bool.false_and]
 refine .bind (J9 (by omega)) fun r hr=>?_
 subst hr
 refine .ret ?_
 have e1:(l'.length==16)=a.V6:=by
  rw[hl'.1]
  unfold Addr.L
  cases a.V6<;>rfl
 have e2:val l'%2^128=val l':=by
  refine Nat.mod_eq_of_lt ?_
  rw[hl'.2]
  exact Nat.lt_of_le_of_lt (Nat.div_mul_le_self _ _) (Nat.lt_of_lt_of_le (Addr.n_lt hv) (Nat.pow_le_pow_right (by omega) (by rw[hw];omega)))
 rw[e1,e2,hl'.2,Addr.cut]
theorem N6 {a:Addr}{n:Int}(hn:¬ (a.ok=true/\0<=n/\n<=a.w)):Ok (DO a n) fun r=>r.2≠0:=by
 have hwid:DC a=some (a.w:Int):=by unfold DC Addr.w;split<;>rfl
 unfold DO
 rw[EG,AC]
 refine .ite (fun _=>.ret (by decide)) fun hv=>?_
 have hv:a.ok=true:=by simpa using hv
 refine .join (fun b=>b=true) (fun k hk=>.ite (fun _=>hk _ rfl) fun h=>?_) fun b hb=>?_
 ·rw[hwid,AC]
  refine hk _ ?_
  show decide (n > (a.w:Int))=true
  simp at h ⊢
  have:¬ (0<=n/\n<=a.w):=fun q=>hn ⟨hv,q⟩
  omega
 subst hb
 exact .ite (fun _=>.ret (by decide)) fun h=>absurd rfl h
theorem HO (a:Addr)(n:Int) :∃r e,DO a n=some (r,e)/\((a.ok=true/\0<=n/\n<=a.w)/\e=0/\r=⟨a.cut n.toNat,n⟩\/¬ (a.ok=true/\0<=n/\n<=a.w)/\e≠0):=by
 by_cases h:a.ok=true/\0<=n/\n<=a.w
 ·obtain⟨k,rfl⟩ :∃k:Nat,n=k:=⟨n.toNat,by omega⟩
  obtain⟨r,h1,h2⟩:=Py h.1 (n:=k) (by omega)
  exact⟨_,_,by rw[h1,h2],.inl ⟨h,rfl,by rw[Int.toNat_natCast]⟩⟩
 obtain⟨r,h1,h2⟩:=N6 h
 exact⟨r.1,r.2,h1,.inr ⟨h,h2⟩⟩
instance (a:Addr) (n:Int):Tt (DO a n):=by
 obtain⟨r,e,h,_⟩:=HO a n
 exact⟨_,h⟩
instance (p:JAD):Tt (DF p):=by unfold DF;exact Tt.auto
structure SmA (n:Nat)(a:JAC):Prop where
 p:a.Path.length<=n
 s :∀s∈a.Path,s.ASNs.length<=n
 c:a.Communities.length<=n
 l:a.JAF.length<=n
 o:a.Other.length<=n
 d :∀u∈a.Other,u.Data.length<=n
theorem SmA.mono {n m:Nat}{a:JAC}(h:SmA n a)(hnm:n<=m):SmA m a:=
 ⟨Nat.le_trans h.p hnm,fun s hs=>Nat.le_trans (h.s s hs) hnm,Nat.le_trans h.c hnm,Nat.le_trans h.l hnm,Nat.le_trans h.o hnm,fun u hu=>Nat.le_trans (h.d u hu) hnm⟩
theorem SmA.zero (n:Nat)(x:Addr)(a b c d:Int):SmA n ⟨a,[],x,b,c,d,[],[],[]⟩:=⟨Nat.zero_le _,fun _ h=>absurd h (by simp),Nat.zero_le _,Nat.zero_le _,Nat.zero_le _,fun _ h=>absurd h (by simp)⟩
instance (a b:List JAE):Tt (Dp a b):=by
 unfold Dp
 refine Ok.tt (Q:=fun _=>True) (.ite (fun _=>.ret trivial) fun hl=>.join (fun _=>True) (fun k hk=>?_) fun _ _=>.ret trivial)
 have hl:a.length=b.length:=by simp at hl;omega
 refine .for_ (fun _=>hk _ trivial) fun next x i s hi hx hnx=>.join (fun _=>True) (fun k2 hk2=>?_) fun _ _=>hnx _
 have hib:i<b.length:=by omega
 refine .join (fun c=>c=false->x.ASNs.length=b[i].ASNs.length) (fun k3 hk3=>?_) fun c hc=>.ite (fun _=>.ret trivial) fun hc'=>.join (fun _=>True) (fun k4 hk4=>?_) fun _ _=>hk2 _ trivial
 ·rw[Dw hib,AC]
  refine .ite (fun _=>hk3 _ (by simp)) fun _=>?_
  rw[AC]
  exact hk3 _ fun h=>by simp at h;omega
 have:=hc (by simpa using hc')
 refine .for_ (fun _=>hk4 _ trivial) fun next y j s hj hy hny=>?_
 rw[Dw hib,AC]
 refine .bind (.geti (by omega)) fun _ _=>.ite (fun _=>.ret trivial) fun _=>hny _
instance (a b:JAC):Tt (Cb a b):=by unfold Cb;exact Tt.auto
theorem Ui {K V:Type}[BEq K](hl :∀a b:K,(a==b)=true↔a=b){l:List (K×V)}{k k':K}{v:V}:A4 (Cd l k v) k'=cond (k'==k) (some v) (A4 l k'):=by
 induction l with
 | nil=>simp only[Cd,A4];cases k'==k<;>rfl
 | cons p l ih=>
  simp only[Cd]
  cases h:(k==p.1)
  ·simp only[Bool.false_eq_true,if_false,A4,ih]
   cases h2:(k'==p.1)
   ·simp
   have h3:(k'==k)=false:=by
    cases h4:(k'==k)
    ·rfl
    have e1:=(hl _ _).1 h2;have e2:=(hl _ _).1 h4
    rw[<- e2,e1,(hl _ _).2 rfl] at h
    simp at h
   rw[h3];simp
  simp only[if_true,A4]
  have e:=(hl _ _).1 h
  rw[<- e]
  cases k'==k<;>simp
theorem mget_mset {V:Type}{l:List (Int×V)}{k k':Int}{v:V}:A4 (Cd l k v) k'=if k'=k then some v else A4 l k':=by
 rw[Ui (fun a b=>beq_iff_eq)]
 by_cases h:k'=k
 ·rw[if_pos h,h];simp
 rw[if_neg h,show (k'==k)=false by simpa using h];rfl
def Mb (n:Nat)(ks:List Int)(m:List (Int×List UInt8)):Prop:=(∀k v,A4 m k=some v->v.length<=n)/\∀k∈ks,A4 m k=none
theorem Mb.set {n:Nat}{ks ks':List Int}{m:List (Int×List UInt8)}{k:Int}{v:List UInt8}(h:Mb n ks m)(hv:v.length<=n)(hk :∀q∈ks',q∈ks/\q≠k):Mb n ks' (Cd m k v):=by
 refine⟨fun q u hq=>?_,fun q hq=>?_⟩
 ·rw[mget_mset] at hq
  split at hq
  ·obtain rfl:=X25 hq;exact hv
  exact h.1 _ _ hq
 rw[mget_mset,if_neg (hk q hq).2]
 exact h.2 q (hk q hq).1
theorem Mb.sub {n:Nat}{ks ks':List Int}{m:List (Int×List UInt8)}(h:Mb n ks m)(hk :∀q∈ks',q∈ks):Mb n ks' m:=⟨h.1,fun q hq=>h.2 q (hk q hq)⟩
def Bn (p:JAD):Prop:=p.Addr.ok=true/\0<=p.Len/\p.Len<=p.Addr.w/\p.Addr.cut p.Len.toNat=p.Addr
theorem Addr.eqd_iff (a b:Addr):Addr.eqd a b=true↔a=b:=by
 unfold Addr.eqd
 simp only[X27,beq_iff_eq,Bool.and_true,Int.natCast_inj,UInt64.toNat_inj]
 constructor
 ·rintro⟨h1,h2,h3⟩;cases a;cases b;simp_all
 rintro rfl;exact⟨rfl,rfl,rfl⟩
theorem JAD.eqd_iff (a b:JAD):JAD.eqd a b=true↔a=b:=by
 have h:=Addr.eqd_iff a.Addr b.Addr
 unfold Addr.eqd at h
 unfold JAD.eqd
 rw[X27,h]
 simp only[Bool.and_true,beq_iff_eq]
 constructor
 ·rintro⟨h1,h2⟩;cases a;cases b;simp_all
 rintro rfl;exact⟨rfl,rfl⟩
theorem OE (p:JAD):Ok (DF p) fun b=>b=true↔Bn p:=by
 obtain⟨r,e,h1,h2⟩:=HO p.Addr p.Len
 unfold DF
 rw[h1,AC]
 dsimp only
 unfold Bn
 rcases h2 with ⟨h3,rfl,rfl⟩|⟨h3,h4⟩
 ·refine .join (fun b=>b=true↔p.Addr.cut p.Len.toNat=p.Addr) (fun k hk=>.ite (fun _=>hk _ ?_) fun h=>absurd rfl h) fun b hb=>.ret (by rw[hb];exact⟨fun h=>⟨h3.1,h3.2.1,h3.2.2,h⟩,fun h=>h.2.2.2⟩)
  show JAD.eqd p _=true↔_
  rw[JAD.eqd_iff]
  exact⟨fun h=>(congrArg JAD.Addr h).symm,fun h=>by rw[h]⟩
 refine .join (fun b=>b=false) (fun k hk=>.ite (fun h=>absurd (by simpa using h) h4) fun _=>hk _ rfl) fun b hb=>.ret ⟨fun h=>by rw[hb] at h;simp at h,fun h=>absurd ⟨h.1,h.2.1,h.2.2.1⟩ h3⟩
def Dk (d:JAI):Prop:=0<=d.At/\d.L.length<=9223372036854775807
def Sh (p:List JAE)(o:List JAA):Prop:=(p.length<=4/\∀s∈p,s.ASNs.length<=20)/\o.length<=4/\∀u∈o,u.Data.length<=4
theorem Sh.a {p:List JAE}{o:List JAA}(h:Sh p o){a b c d:Int}{x:Addr}{e:List JAB}{f:List JAF}(he:e.length<=8)(hf:f.length<=8):SmA 1000 ⟨a,p,x,b,c,d,e,f,o⟩:=
 ⟨by have:=h.1.1;simp only;omega,fun s hs=>by have:=h.1.2 s hs;omega,by simp only;omega,by simp only;omega,by have:=h.2.1;simp only;omega,fun u hu=>by have:=h.2.2 u hu;omega⟩
def pk (n:UInt8):Nat:=(n.toNat+7)/8
def Z5 (b:List UInt8):Option (List UInt8×List UInt8):=match b with
 | x::y::t=>if t.length<x.toNat*256+y.toNat then none else some (t.take (x.toNat*256+y.toNat),t.drop (x.toNat*256+y.toNat))
 | _=>none
def Rb (l:List JAA)(k:Int):List JAA:=l.filter fun x=>x.Type_==k
def zAd:Addr:=⟨false,(0:UInt64),(0:UInt64)⟩
def Qr (b:List UInt8):List UInt8×List UInt8×Bool:=match Z5 b with
 | none=>([],[],false)
 | some (p,r)=>(p,r,true)
theorem YK (x y:UInt8)(t:List UInt8):Gw (x::y::t)=some ((x.toNat*256+y.toNat:Nat):Int):=by
 unfold Gw
 have hx:=x.toNat_lt
 rw[Zf,AC,Yy,AC,UB (by omega) y.toNat_lt]
theorem Ec (a:Addr):Ei a=some a.ok:=by
 unfold Ei Addr.ok
 rw[AH]
 generalize ((a.Hi.toNat:Int)==0)=x
 generalize decide ((a.Lo.toNat:Int)<4294967296)=y
 generalize a.V6=z
 cases z<;>cases x<;>rfl
theorem Nj (a:Addr):B2 a=some (a.w:Int):=by unfold B2 Addr.w;split<;>rfl
theorem Xb (a b:List UInt8):bytes_Equal a b=some (a==b):=by
 unfold bytes_Equal
 rw[QA,QA]
theorem Vw {α σ ρ:Type}{K:σ->Option ρ}{b:(σ->Option ρ)->α->Nat->σ->Option ρ}{x:α}{t:List α}{i:Nat}{s:σ}:Ak K b (x::t) i s=b (fun s=>Ak K b t (i+1) s) x i s:=rfl
theorem aC {α:Type}(l:List α):((l.length:Int)==0)=true↔l=[]:=by
 rw[beq_iff_eq,Int.natCast_eq_zero,List.length_eq_zero_iff]
def wr (x:JAA)(n:Int):Bool:=decide (n > 0)&&(bt x.Flags 192 != 128)
theorem Aj {v n:Int}(hn:1<=n/\n<=4611686018427387904):Ok (A6 v n) fun r=>0<=r/\r<n:=by
 unfold A6
 have h1:=Int.tmod_lt_of_pos v (show 0<n by omega)
 have h2:-n<Int.tmod v n:=by
  have:=Int.lt_tmod_of_pos v (show 0<n by omega)
  exact this
 refine .bind (.chk (by omega)) fun _ _=>.join (fun r=>0<=r/\r<n) (fun k hk=>.ite (fun hc=>hk _ ?_) fun hc=>hk _ ?_) fun r hr=>.ret hr
 ·simp only[decide_eq_true_eq] at hc
  rw[AQ (by omega)]
  omega
 simp only[decide_eq_true_eq] at hc
 omega
theorem AM {d:JAI}{n:Int}(hd:Dk d)(hn:1<=n/\n<=4611686018427387904):Ok (AL d n) fun r=>0<=r.1/\r.1<n/\Dk r.2:=by
 obtain⟨h1,h2⟩:=hd
 unfold AL
 refine .ite (fun _=>.ret ⟨by simp,by simp;omega,h1,h2⟩) fun h=>?_
 simp only[decide_eq_true_eq] at h
 have e:AS (AS (d.At+1)-1)=d.At:=by rw[AQ (x:=d.At+1) (by omega),AQ (by omega)];omega
 rw[e,AQ (x:=d.At+1) (by omega)]
 refine .bind (.geti (by omega)) fun v _=>.bind (Aj hn) fun r hr=>.ret ⟨hr.1,hr.2,by simp only;omega,h2⟩
theorem Lx {d:JAI}{n:Int}(hd:Dk d)(hn:0<=n/\n<=1000):Ok (Dq d n) fun r=>(r.1.length:Int)<=n/\Dk r.2:=by
 unfold Dq
 rw[AQ (by omega)]
 refine .bind (AM hd (by omega)) ?_
 rintro⟨v,d⟩ ⟨v1,v2,hd⟩
 dsimp only at v1 v2 hd ⊢
 refine .join (fun p:JAI×List UInt8=>Dk p.1/\(p.2.length:Int)<=n) (fun k hk=>?_) fun p hp=>.ret ⟨hp.2,hp.1⟩
 refine .whileI (fun s:Int×JAI×List UInt8=>0<=s.1/\s.1+s.2.2.length<=n/\Dk s.2.1) (fun s=>s.1.toNat) ⟨v1,by simp only[X13];omega,hd⟩ (Be (by simp only;omega)) ?_
 rintro next ⟨c,d,l⟩ ⟨h1,h2,h3⟩ hnx
 dsimp only at h1 h2 h3 ⊢
 refine .ite (fun h=>?_) fun h=>hk (d,l) ⟨h3,by dsimp only;omega⟩
 simp only[decide_eq_true_eq] at h
 refine .bind (AM h3 (by omega)) ?_
 rintro⟨w,d⟩ ⟨w1,w2,hd⟩
 dsimp only at w1 w2 hd ⊢
 refine .bind (Ok.apnd (by decide) (by simp;omega)) fun l2 hl2=>?_
 rw[AQ (by omega)]
 exact hnx _ ⟨by dsimp only;omega,by rw[hl2];simp only[X11,X22];omega,hd⟩ (by dsimp only;omega)
theorem Oo {d:JAI}(hd:Dk d):Ok (Eb d) fun r=>Dk r.2:=by
 unfold Eb
 refine .bind (AM hd (by omega)) ?_
 rintro⟨v,d⟩ ⟨v1,v2,hd⟩
 refine .bind (AM hd (by omega)) ?_
 rintro⟨w,d⟩ ⟨w1,w2,hd⟩
 refine .bind (AM hd (by omega)) ?_
 rintro⟨u,d⟩ ⟨u1,u2,hd⟩
 exact .bind (.geti (by simp only[X12,X13];omega)) fun x _=>.ret hd
theorem NY {d:JAI}(hd:Dk d):Ok (EA d) fun r=>(r.1.length<=3/\tot r.1<=12/\Fv r.1=true)/\Dk r.2:=by
 unfold EA
 refine .bind (AM hd (by omega)) ?_
 rintro⟨v,d⟩ ⟨v1,v2,hd⟩
 dsimp only at v1 v2 hd ⊢
 refine .join (fun p:JAI×List JAE=>(p.2.length<=3/\tot p.2<=12/\Fv p.2=true)/\Dk p.1) (fun k hk=>?_) fun p hp=>.ret hp
 refine .whileI (fun s:Int×JAI×List JAE=>(0<=s.1/\s.1+s.2.2.length<=3/\4*s.1+tot s.2.2<=12/\Fv s.2.2=true)/\Dk s.2.1) (fun s=>s.1.toNat) ⟨⟨v1,by simp only[X13];omega,by simp only[tot,List.foldl_nil];omega,rfl⟩,hd⟩ (Be (by simp only;omega)) ?_
 rintro next ⟨c,d,p⟩ ⟨⟨h1,h2,h3,h4⟩,hd⟩ hnx
 dsimp only at h1 h2 h3 h4 hd ⊢
 refine .ite (fun h=>?_) fun h=>hk (d,p) ⟨⟨by dsimp only;omega,by dsimp only;omega,h4⟩,hd⟩
 simp only[decide_eq_true_eq] at h
 refine .join (fun q:JAI×List JAE=>(q.2.length<=p.length+1/\tot q.2<=tot p+4/\Fv q.2=true)/\Dk q.1) (fun k8 hk8=>?_) ?_
 rotate_left
 ·rintro⟨d,q⟩ ⟨⟨q1,q2,q3⟩,hd⟩
  dsimp only at q1 q2 q3 hd ⊢
  rw[AQ (by omega)]
  exact hnx _ ⟨⟨by dsimp only;omega,by dsimp only;omega,by dsimp only;omega,q3⟩,hd⟩ (by dsimp only;omega)
 refine .join (fun q:Bool×JAI=>Dk q.2) (fun k9 hk9=>?_) ?_
 ·refine .ite (fun hl=>?_) fun _=>.bind (AM hd (by omega)) fun r hr=>hk9 _ hr.2.2
  simp only[decide_eq_true_eq] at hl
  rw[AQ (by omega)]
  exact .bind (.geti (by omega)) fun s _=>.ite (fun _=>hk9 _ hd) fun _=>.bind (AM hd (by omega)) fun r hr=>hk9 _ hr.2.2
 rintro⟨set,d⟩ hd
 dsimp only at hd ⊢
 refine .bind (AM hd (by omega)) ?_
 rintro⟨n,d⟩ ⟨n1,n2,hd⟩
 dsimp only at n1 n2 hd ⊢
 rw[AQ (x:=1+n) (by omega)]
 refine .join (fun q:JAI×List Int=>q.2.length<=4/\Dk q.1) (fun k19 hk19=>?_) ?_
 ·refine .whileI (fun s:Int×JAI×List Int=>(0<=s.1/\s.1+s.2.2.length<=4)/\Dk s.2.1) (fun s=>s.1.toNat) ⟨⟨by dsimp only;omega,by simp only[X13];omega⟩,hd⟩ (Be (by simp only;omega)) ?_
  rintro next ⟨m,d,l⟩ ⟨⟨m1,m2⟩,hd⟩ hnx
  dsimp only at m1 m2 hd ⊢
  refine .ite (fun hm=>?_) fun _=>hk19 (d,l) ⟨by dsimp only;omega,hd⟩
  simp only[decide_eq_true_eq] at hm
  refine .join (fun q:JAI×List Int=>q.2.length<=l.length+1/\Dk q.1) (fun k24 hk24=>?_) ?_
  ·refine .bind (Oo hd) ?_
   rintro⟨x,d⟩ hd
   dsimp only at hd ⊢
   refine .ite (fun _=>.bind (Ok.apnd (by decide) (by simp;omega)) fun r hr=>hk24 (d,r) ⟨by rw[hr];simp,hd⟩) fun _=>?_
   refine Ok.pos (n:=l.length) (by omega) (fun k' w w1 w2 hk'=>.ite (fun hw=>?_) fun _=>hk' _ (by simp)) fun w w1 w2=>?_
   ·simp only[decide_eq_true_eq] at hw
    exact .bind (.geti (by omega)) fun y _=>hk' _ fun _=>hw
   refine .join (fun _=>True) (fun k35 hk35=>.ite (fun _=>hk35 _ trivial) fun hw=>.bind (.geti ?_) fun y _=>hk35 _ trivial) fun b _=>?_
   ·simp only[beq_iff_eq] at hw
    omega
   refine .join (fun q:List Int=>q.length<=l.length+1) (fun k38 hk38=>.ite (fun _=>?_) fun _=>hk38 _ (by omega)) fun q hq=>hk24 (d,q) ⟨hq,hd⟩
   refine .bind (Ok.chk (by omega)) fun _ _=>.bind (Ok.apnd (by decide) (by simp;omega)) fun _ _=>.bind (Ok.apnd (by decide) (by simp;omega)) fun a ha=>.bind (Ok.chk (by omega)) fun _ _=>.bind (Ok.apnd (by decide) (by rw[ha];simp;omega)) fun b hb=>hk38 _ ?_
   rw[hb,ha]
   simp only[X11,X18,X17,X22]
   omega
  rintro⟨d,q⟩ ⟨q1,hd⟩
  dsimp only at q1 hd ⊢
  rw[AQ (by omega)]
  exact hnx _ ⟨⟨by dsimp only;omega,by dsimp only;omega⟩,hd⟩ (by dsimp only;omega)
 rintro⟨d,l⟩ ⟨l1,hd⟩
 dsimp only at l1 hd ⊢
 refine .bind (Ok.apnd (by decide) (by simp;omega)) fun p2 hp2=>?_
 have ht:tot p2=tot p+l.length:=by rw[hp2,K9,Du];simp[tot]
 have hl2:p2.length=p.length+1:=by rw[hp2];simp
 rw[Gq (by omega) (by omega),AC]
 refine .join (fun q:List JAE=>q.length<=p.length+1/\tot q<=tot p+4/\Fv q=true) (fun k48 hk48=>.ite (fun _=>?_) fun hv=>hk48 p2 ⟨by omega,by omega,by simpa using hv⟩) fun q hq=>hk8 (d,q) ⟨hq,hd⟩
 rw[AQ (by omega)]
 refine .bind (Ok.part (by omega)) fun q hq=>hk48 q ?_
 have e:q=p:=by
  rw[hq.1,hp2]
  have:(((p++[(⟨set,l⟩:JAE)]).length:Int)-1).toNat=p.length:=by simp
  rw[this]
  simp
 rw[e]
 exact⟨by omega,by omega,h4⟩
theorem U2 {l:List JAB}{c:JAB}(hv:D1 l=true)(hc:okC c=true)(hl:l.length<64):D1 (if l.any (fun y=>JAB.eqd y c)=true then l else FY Ji l c)=true/\(if l.any (fun y=>JAB.eqd y c)=true then l else FY Ji l c).length<=l.length+1:=by
 split
 ·exact⟨hv,by omega⟩
 rename_i h
 obtain⟨h1,h2,h3⟩:=Eg.1 hv
 have hx:c∉l:=fun q=>h (List.any_eq_true.2 ⟨c,q,(Zb _ _).2 rfl⟩)
 rw[Eg,Fo]
 refine⟨⟨fun y hy=>?_,HA Q4 TW h2 hx,by omega⟩,by omega⟩
 rcases Ea.1 hy with hy | rfl
 ·exact h1 y hy
 exact hc
theorem Uh {l:List JAF}{c:JAF}(hv:D3 l=true)(hc:okL c=true)(hl:l.length<64):D3 (if l.any (fun y=>JAF.eqd y c)=true then l else FY Jf l c)=true/\(if l.any (fun y=>JAF.eqd y c)=true then l else FY Jf l c).length<=l.length+1:=by
 split
 ·exact⟨hv,by omega⟩
 rename_i h
 obtain⟨h1,h2,h3⟩:=Em.1 hv
 have hx:c∉l:=fun q=>h (List.any_eq_true.2 ⟨c,q,(ZL _ _).2 rfl⟩)
 rw[Em,Fo]
 refine⟨⟨fun y hy=>?_,HA Q8 SV h2 hx,by omega⟩,by omega⟩
 rcases Ea.1 hy with hy | rfl
 ·exact h1 y hy
 exact hc
theorem Hz {d:JAI}(hd:Dk d):Ok (Bo d) fun r=>(D1 r.1=true/\r.1.length<=4)/\(D3 r.2.1=true/\r.2.1.length<=3)/\Dk r.2.2:=by
 unfold Bo
 refine .bind (AM hd (by omega)) ?_
 rintro⟨v,d⟩ ⟨v1,v2,hd⟩
 dsimp only at v1 v2 hd ⊢
 refine .join (fun p:List JAB×JAI=>(D1 p.1=true/\p.1.length<=4)/\Dk p.2) (fun k hk=>?_) ?_
 ·refine .whileI (fun s:List JAB×Int×JAI=>(D1 s.1=true/\0<=s.2.1/\s.2.1+s.1.length<=4)/\Dk s.2.2) (fun s=>s.2.1.toNat) ⟨⟨rfl,v1,by simp only[X13];omega⟩,hd⟩ (Be (by simp only;omega)) ?_
  rintro next ⟨l,c,d⟩ ⟨⟨h1,h2,h3⟩,hd⟩ hnx
  dsimp only at h1 h2 h3 hd ⊢
  refine .ite (fun h=>?_) fun _=>hk (l,d) ⟨⟨h1,by dsimp only;omega⟩,hd⟩
  simp only[decide_eq_true_eq] at h
  refine .bind (AM hd (by omega)) ?_
  rintro⟨a,d⟩ ⟨a1,a2,hd⟩
  dsimp only at a1 a2 hd ⊢
  refine .bind (.geti (by simp only[X12,X13];omega)) fun x hx=>.bind (AM hd (by omega)) ?_
  rintro⟨b,d⟩ ⟨b1,b2,hd⟩
  dsimp only at b1 b2 hd ⊢
  refine .bind (AM hd (by omega)) ?_
  rintro⟨e,d⟩ ⟨e1,e2,hd⟩
  dsimp only at e1 e2 hd ⊢
  refine .bind (.geti (by simp only[X12,X13];omega)) fun y hy=>?_
  have hok:okC ⟨x,y⟩=true:=by
   have g1:=hx.1
   have g2:=hy.1
   rw[AQ (by omega)] at g2
   simp only[List.mem_cons,List.not_mem_nil,or_false] at g1 g2
   simp only[okC,inR,X27,decide_eq_true_eq]
   omega
  have hadd:=U2 h1 hok (by omega)
  rw[RB h1 hok (by omega),AC,AQ (by omega)]
  dsimp only
  exact hnx _ ⟨⟨hadd.1,by dsimp only;omega,by have:=hadd.2;dsimp only;omega⟩,hd⟩ (by dsimp only;omega)
 rintro⟨l,d⟩ ⟨hl,hd⟩
 dsimp only at hl hd ⊢
 refine .bind (AM hd (by omega)) ?_
 rintro⟨v,d⟩ ⟨v1,v2,hd⟩
 dsimp only at v1 v2 hd ⊢
 refine .join (fun p:List JAF×JAI=>(D3 p.1=true/\p.1.length<=3)/\Dk p.2) (fun k hk=>?_) ?_
 ·refine .whileI (fun s:List JAF×Int×JAI=>(D3 s.1=true/\0<=s.2.1/\s.2.1+s.1.length<=3)/\Dk s.2.2) (fun s=>s.2.1.toNat) ⟨⟨rfl,v1,by simp only[X13];omega⟩,hd⟩ (Be (by simp only;omega)) ?_
  rintro next ⟨l,c,d⟩ ⟨⟨h1,h2,h3⟩,hd⟩ hnx
  dsimp only at h1 h2 h3 hd ⊢
  refine .ite (fun h=>?_) fun _=>hk (l,d) ⟨⟨h1,by dsimp only;omega⟩,hd⟩
  simp only[decide_eq_true_eq] at h
  refine .bind (AM hd (by omega)) ?_
  rintro⟨a,d⟩ ⟨a1,a2,hd⟩
  dsimp only at a1 a2 hd ⊢
  refine .bind (.geti (by simp only[X12,X13];omega)) fun x hx=>.bind (AM hd (by omega)) ?_
  rintro⟨b,d⟩ ⟨b1,b2,hd⟩
  dsimp only at b1 b2 hd ⊢
  refine .bind (AM hd (by omega)) ?_
  rintro⟨e,d⟩ ⟨e1,e2,hd⟩
  dsimp only at e1 e2 hd ⊢
  have hok:okL ⟨x,b,e⟩=true:=by
   have g1:=hx.1
   simp only[List.mem_cons,List.not_mem_nil,or_false] at g1
   simp only[okL,inR,X27,decide_eq_true_eq]
   omega
  have hadd:=Uh h1 hok (by omega)
  rw[Kz h1 hok (by omega),AC,AQ (by omega)]
  dsimp only
  exact hnx _ ⟨⟨hadd.1,by dsimp only;omega,by have:=hadd.2;dsimp only;omega⟩,hd⟩ (by dsimp only;omega)
 rintro⟨m,d⟩ ⟨hm,hd⟩
 exact .ret ⟨hl,hm,hd⟩
def okO (x:JAA):Bool:=decide (1<=x.Type_/\x.Type_<=255)&&(unk x.Type_&&(decide (x.Flags=224)&&decide (x.Data.length<=255)))
def ltT (a b:JAA):Bool:=decide (a.Type_<b.Type_)
def DW (l:List JAA):Bool:=l.all okO&&chainB ltT l
def Fb (a:JAC):Bool:=DW a.Other&&(decide (-1<=a.Origin/\a.Origin<=2)&&(Fv a.Path&&(a.Next.ok&&(decide (-1<=a.MED/\a.MED<=4294967295)&&(decide (-1<=a.Pref/\a.Pref<=4294967295)&&((decide (a.OTC=-1) || KC a.OTC)&&(D1 a.Communities&&(D3 a.JAF&&decide (a.Other.length<=8)))))))))
theorem Ur (a b c:JAA)(h1:ltT a b=true)(h2:ltT b c=true):ltT a c=true:=by simp only[ltT,decide_eq_true_eq] at *;omega
structure SmT (a:JAC):Prop where
 p:a.Path.length<=1000000
 t:tot a.Path<=1000000
 c:a.Communities.length<=1000000
 l:a.JAF.length<=1000000
 o:a.Other.length<=1000000
 d :∀u∈a.Other,u.Data.length<=1000000
theorem HU {d:JAI}(hd:Dk d):Ok (C6 d) fun r=>(Fb r.1=true/\r.1.Path.length<=3/\tot r.1.Path<=12/\r.1.Communities.length<=4/\r.1.JAF.length<=3/\r.1.Other.length<=6/\∀u∈r.1.Other,u.Data.length<=9)/\Dk r.2:=by
 unfold C6
 rw[AH]
 refine .bind (AM hd (by omega)) ?_
 rintro⟨o,d⟩ ⟨o1,o2,hd⟩
 dsimp only at o1 o2 hd ⊢
 refine .bind (NY hd) ?_
 rintro⟨p,d⟩ ⟨hp,hd⟩
 dsimp only at hp hd ⊢
 have e4:Hr 3=some ⟨false,(0:UInt64),(AN (3221225984+((AN (AS (1+3))).toNat:Int)))⟩:=rfl
 have e6:Iy 4=some ⟨true,(2306139568115548160:UInt64),(AN (AS (1+4)))⟩:=rfl
 rw[e4,AC,e6,AC]
 refine .bind (AM hd (by omega)) ?_
 rintro⟨x,d⟩ ⟨x1,x2,hd⟩
 dsimp only at x1 x2 hd ⊢
 refine .bind (.geti (by simp only[X12,X13];omega)) fun nx hnx=>?_
 have hnx:nx.ok=true:=by
  have:=hnx.1
  simp only[List.mem_cons,List.not_mem_nil,or_false] at this
  rcases this with rfl | rfl | rfl<;>decide
 refine .bind (AM hd (by omega)) ?_
 rintro⟨y,d⟩ ⟨y1,y2,hd⟩
 dsimp only at y1 y2 hd ⊢
 refine .bind (.geti (by simp only[X12,X13];omega)) fun med hmed=>?_
 refine .bind (AM hd (by omega)) ?_
 rintro⟨z,d⟩ ⟨z1,z2,hd⟩
 dsimp only at z1 z2 hd ⊢
 refine .bind (.geti (by simp only[X12,X13];omega)) fun pref hpref=>?_
 refine .bind (AM hd (by omega)) ?_
 rintro⟨w,d⟩ ⟨w1,w2,hd⟩
 dsimp only at w1 w2 hd ⊢
 refine .bind (.geti (by simp only[X12,X13];omega)) fun otc hotc=>?_
 refine .bind (Hz hd) ?_
 rintro⟨cs,ls,d⟩ ⟨hcs,hls,hd⟩
 dsimp only at hcs hls hd ⊢
 refine .join (fun q:JAI×List JAA=>((∀u∈q.2,okO u=true/\u.Data.length<=9)/\q.2.Pairwise (fun a b=>ltT a b=true)/\q.2.length<=6)/\Dk q.1) (fun k23 hk23=>?_) ?_
 ·refine .forX (fun i s=>((∀u∈s.2,okO u=true/\u.Data.length<=9/\∃j,j<i/\([6,7,16,34,200,255]:List Int)[j]?=some u.Type_)/\s.2.Pairwise (fun a b=>ltT a b=true)/\s.2.length<=i)/\Dk s.1) ⟨⟨by simp,.nil,by simp⟩,hd⟩ (fun s hs=>hk23 s ⟨⟨fun u hu=>⟨(hs.1.1 u hu).1,(hs.1.1 u hu).2.1⟩,hs.1.2.1,hs.1.2.2⟩,hs.2⟩) ?_
  rintro next kind i ⟨d,l⟩ hkind ⟨⟨g1,g2,g3⟩,hd⟩ hn
  dsimp only at g1 g2 g3 hd ⊢
  refine .bind (AM hd (by omega)) ?_
  rintro⟨c,d⟩ ⟨c1,c2,hd⟩
  dsimp only at c1 c2 hd ⊢
  have hi:i<6:=(X16.1 hkind).1
  refine .join (fun q:JAI×List JAA=>((∀u∈q.2,okO u=true/\u.Data.length<=9/\∃j,j<i+1/\([6,7,16,34,200,255]:List Int)[j]?=some u.Type_)/\q.2.Pairwise (fun a b=>ltT a b=true)/\q.2.length<=i+1)/\Dk q.1) (fun k31 hk31=>.ite (fun _=>?_) fun _=>hk31 (d,l) ⟨⟨fun u hu=>?_,g2,by dsimp only;omega⟩,hd⟩) fun q hq=>hn q hq
  ·refine .bind (Lx hd (by omega)) ?_
   rintro⟨b,d⟩ ⟨hb,hd⟩
   dsimp only at hb hd ⊢
   refine .bind (Ok.apnd (by decide) (by simp;omega)) fun l2 hl2=>hk31 (d,l2) ⟨?_,hd⟩
   dsimp only
   rw[hl2]
   have hlt :∀j,j<i->∀t,([6,7,16,34,200,255]:List Int)[j]?=some t->t<kind:=by
    intro j hj t ht
    match i,j,hi,hj with
    | 1,0,_,_ | 2,0,_,_ | 2,1,_,_ | 3,0,_,_ | 3,1,_,_ | 3,2,_,_ | 4,0,_,_ | 4,1,_,_ | 4,2,_,_ | 4,3,_,_ | 5,0,_,_ | 5,1,_,_ | 5,2,_,_ | 5,3,_,_ | 5,4,_,_=>simp at ht hkind;omega
   have hkk:decide (1<=kind/\kind<=255)=true/\unk kind=true:=by
    have:=List.mem_of_getElem? hkind
    simp only[List.mem_cons,List.not_mem_nil,or_false] at this
    rcases this with rfl | rfl | rfl | rfl | rfl | rfl<;>decide
   refine⟨fun u hu=>?_,List.pairwise_append.2 ⟨g2,List.pairwise_singleton _ _,fun u hu v hv=>?_⟩,by simp only[X11,X22];omega⟩
   ·rcases X23.1 hu with hu | hu
    ·obtain⟨q1,q2,j,q3,q4⟩:=g1 u hu
     exact⟨q1,q2,j,by omega,q4⟩
    rw[X14] at hu
    subst hu
    refine⟨?_,by dsimp only;omega,i,by omega,hkind⟩
    unfold okO
    rw[hkk.1,hkk.2]
    simp only[Bool.true_and,X27,decide_eq_true_eq]
    exact⟨trivial,by omega⟩
   rw[X14] at hv
   subst hv
   obtain⟨_,_,j,q3,q4⟩:=g1 u hu
   have:=hlt j q3 _ q4
   simpa[ltT] using this
  obtain⟨q1,q2,j,q3,q4⟩:=g1 u hu
  exact⟨q1,q2,j,by omega,q4⟩
 rintro⟨d,l⟩ ⟨⟨g1,g2,g3⟩,hd⟩
 dsimp only at g1 g2 g3 hd ⊢
 refine .ret ⟨⟨?_,hp.1,hp.2.1,hcs.2,hls.2,g3,fun u hu=>(g1 u hu).2⟩,hd⟩
 have hmed:=hmed.1
 have hpref:=hpref.1
 have hotc:=hotc.1
 simp only[List.mem_cons,List.not_mem_nil,or_false] at hmed hpref hotc
 rw[AQ (by omega)]
 have hO:DW l=true:=by
  unfold DW
  rw[X27,HW Ur,List.all_eq_true]
  exact⟨fun u hu=>(g1 u hu).1,g2⟩
 unfold Fb
 simp only[hO,hp.2.2,hnx,hcs.1,hls.1,Bool.true_and,X27,decide_eq_true_eq,Bool.or_eq_true,KC]
 omega
theorem TF {α ρ:Type}{K:Unit->Option ρ}{l:List α}{body:(Unit->Option ρ)->α->Nat->Unit->Option ρ}(h :∀next x (i:Nat),geti l (i:Int)=some x->body next x i ()=next ()):Ak K body l 0 ()=K ():=by
 have key :∀(t p:List α),l=p++t->Ak K body t p.length ()=K ():=by
  intro t
  induction t with
  | nil=>intro p _;rfl
  | cons x t ih=>
   intro p e
   show body (fun s=>Ak K body t (p.length+1) s) x p.length ()=_
   rw[h _ x p.length (by rw[e];exact R2 p x t)]
   have:=ih (p++[x]) (by rw[e];simp)
   simpa using this
 exact key l [] rfl
theorem P1 (l:List JAA):Bc l l=some true:=by
 unfold Bc
 rw[if_neg (by simp),AH]
 refine TF fun next x i hg=>?_
 rw[AH]
 simp only[hg,AC,bne_self_eq_false,cond_false,beq_self_eq_true,Bool.not_true]
 rfl
theorem Un (l:List JAB):Dl l l=some true:=by
 unfold Dl
 rw[if_neg (by simp),AH]
 refine TF fun next x i hg=>?_
 rw[hg,AC,(Zb x x).2 rfl]
 rfl
theorem UW (l:List JAF):BP l l=some true:=by
 unfold BP
 rw[if_neg (by simp),AH]
 refine TF fun next x i hg=>?_
 rw[hg,AC,(ZL x x).2 rfl]
 rfl
theorem UH (l:List JAE):Dp l l=some true:=by
 unfold Dp
 rw[if_neg (by simp),AH]
 refine TF fun next x i hg=>?_
 rw[AH,AH,hg,AC,beq_self_eq_true,if_neg (by decide),AC]
 show (if (cond false true ((x.ASNs.length:Int) != (x.ASNs.length:Int)))=true then _ else _)=_
 rw[bne_self_eq_false,if_neg (by decide),AH]
 refine TF fun next x2 i2 hg2=>?_
 rw[AC,hg2,AC,bne_self_eq_false]
 rfl
theorem bA (a b:Addr):Addr.eqd a b=true↔a=b:=by
 unfold Addr.eqd
 simp only[X27,beq_iff_eq,Bool.and_true,Int.natCast_inj,UInt64.toNat_inj]
 constructor
 ·rintro⟨h1,h2,h3⟩;cases a;cases b;simp_all
 rintro rfl;exact⟨rfl,rfl,rfl⟩
theorem WU (a:JAC):Cb a a=some true:=by
 unfold Cb
 rw[AH,if_pos (by simp),UH,AC,(bA _ _).2 rfl,Un,AC,UW,AC,P1,AC,beq_self_eq_true,beq_self_eq_true,beq_self_eq_true]
 rfl
theorem VU (a b:JAA):ltK Hk a b=ltT a b:=by
 unfold ltK Hk ltT
 rw[Vk,Wp,X28,decide_eq_true_eq,decide_eq_true_eq]
 split
 ·simp[*]
 split<;>omega
theorem aZ {l:List JAA}(hl:l.length<=1000000){K:Unit->Option Bool} :
  Ak (σ:=Unit) K (fun next2 x3 i4 _=>
   AI (τ:=Bool) (fun k5=>
    if (decide (x3.Type_<1))=true then
     k5 true
    else
     if (cond false true (decide (x3.Type_ > 255)))=true then
      k5 true
     else
      Option.bind (CU x3.Type_) fun v6=>
      if (cond false true (!v6))=true then
       k5 true
      else
       if (cond false true (x3.Flags != 224))=true then
        k5 true
       else
        if (cond false true (decide ((x3.Data.length:Int) > 255)))=true then
         k5 true
        else
         if (decide ((i4:Int) > 0))=true then
          Option.bind (geti l (AS ((i4:Int)-1))) fun v7=>
          k5 (cond false true (cond true (decide (v7.Type_ ≥ x3.Type_)) false))
         else
          k5 false
   ) fun v8=>
   if v8=true then
    some false
   else
    next2 ()) l 0 ()=if DW l=true then K () else some false:=by
 have hok :∀x:JAA,okO x=!(decide (x.Type_<1) || (decide (x.Type_ > 255) || ((!unk x.Type_) || ((x.Flags != 224) || decide ((x.Data.length:Int) > 255))))):=by
  intro x
  unfold okO
  have e1:decide (1<=x.Type_/\x.Type_<=255)=(!decide (x.Type_<1)&&!decide (x.Type_ > 255)):=by rw[X28];simp
  have e2:decide (x.Flags=224)=!(x.Flags != 224):=by rw[X28];simp
  have e3:decide (x.Data.length<=255)=!decide ((x.Data.length:Int) > 255):=by rw[X28];simp;omega
  rw[e1,e2,e3]
  cases decide (x.Type_ < 1)<;>cases decide (x.Type_ > 255)<;>cases unk x.Type_<;>cases (x.Flags != 224)<;>cases decide ((x.Data.length:Int) > 255)<;>rfl
 refine YB (ok:=okO) (lt:=ltT) (by omega) (fun next x _=>?_) fun next x y i _ _ hg=>?_
 ·rw[AH,Hq,AC,hok]
  cases decide (x.Type_ < 1)<;>cases decide (x.Type_ > 255)<;>cases unk x.Type_<;>cases (x.Flags != 224)<;>cases decide ((x.Data.length:Int) > 255)<;>rfl
 have e:decide (((i+1:Nat):Int) > 0)=true:=by simp
 have e2:decide (y.Type_ ≥ x.Type_)=!ltT y x:=by unfold ltT;rw[X28];simp
 rw[AH,Hq,AC,hok,hg,AC,e,e2]
 cases decide (x.Type_ < 1)<;>cases decide (x.Type_ > 255)<;>cases unk x.Type_<;>cases (x.Flags != 224)<;>cases decide ((x.Data.length:Int) > 255)<;>cases ltT y x<;>rfl
theorem WN {l:List JAA}(hl:l.length<=1000000):CW l=some (DW l&&decide (l.length<=8)):=by
 unfold CW
 rw[AH]
 have hok :∀x:JAA,okO x=(unk x.Type_&&((decide (1<=x.Type_)&&decide (x.Type_<=255))&&(!(x.Flags != 224)&&!decide ((x.Data.length:Int) > 255)))):=by
  intro x
  unfold okO
  have e1:decide (1<=x.Type_/\x.Type_<=255)=(decide (1<=x.Type_)&&decide (x.Type_<=255)):=by rw[X28];simp
  have e2:decide (x.Flags=224)=!(x.Flags != 224):=by rw[X28];simp
  have e3:decide (x.Data.length<=255)=!decide ((x.Data.length:Int) > 255):=by rw[X28];simp;omega
  rw[e1,e2,e3]
  cases decide (1<=x.Type_)<;>cases decide (x.Type_<=255)<;>cases unk x.Type_<;>cases (x.Flags != 224)<;>cases decide ((x.Data.length:Int) > 255)<;>rfl
 refine (YB (ok:=okO) (lt:=ltT) (F:=some false) (by omega) (fun next x _=>?_) fun next x y i _ _ hg=>?_).trans ?_
 ·rw[AH,F6,AC,FX,hok]
  cases decide (1<=x.Type_)<;>cases decide (x.Type_<=255)<;>cases unk x.Type_<;>cases (x.Flags != 224)<;>cases decide ((x.Data.length:Int) > 255)<;>rfl
 ·have e:decide (((i+1:Nat):Int) > 0)=true:=by simp
  have e2:decide (y.Type_ ≥ x.Type_)=!ltT y x:=by unfold ltT;rw[X28];simp
  rw[AH,F6,AC,FX,hok,hg,e]
  simp only[AC,e2]
  cases decide (1<=x.Type_)<;>cases decide (x.Type_<=255)<;>cases unk x.Type_<;>cases (x.Flags != 224)<;>cases decide ((x.Data.length:Int) > 255)<;>cases ltT y x<;>rfl
 have e:decide ((l.length:Int)<=8)=decide (l.length<=8):=by rw[X28];simp;omega
 rw[e]
 unfold DW
 generalize (l.all okO&&chainB ltT l)=b
 cases b<;>rfl
theorem QO {a:JAC}(h:SmT a):E3 a=some (Fb a):=by
 unfold E3
 rw[AH]
 refine (aZ h.o).trans ?_
 unfold Fb
 by_cases hO:DW a.Other=true
 rotate_left
 ·have hO:DW a.Other=false:=by simpa using hO
  rw[hO];rfl
 rw[hO,if_pos rfl,AH,Gq (by have:=h.p;omega) (by have:=h.t;omega),AC,EG,AC,JJ (by have:=h.c;omega),GK (by have:=h.l;omega)]
 simp only[AC]
 have d1:decide (-1<=a.Origin/\a.Origin<=2)=(decide (a.Origin ≥ -1)&&decide (a.Origin<=2)):=by rw[X28];simp
 have d2:decide (-1<=a.MED/\a.MED<=4294967295)=(decide (a.MED ≥ -1)&&decide (a.MED<=4294967295)):=by rw[X28];simp
 have d3:decide (-1<=a.Pref/\a.Pref<=4294967295)=(decide (a.Pref ≥ -1)&&decide (a.Pref<=4294967295)):=by rw[X28];simp
 have d4:KC a.OTC=(decide (a.OTC ≥ 1)&&decide (a.OTC<=4294967295)):=rfl
 have d5:decide (a.OTC=-1)=(a.OTC==-1):=rfl
 have d6:decide (a.Other.length<=8)=decide ((a.Other.length:Int)<=8):=by rw[X28];simp;omega
 rw[d1,d2,d3,d4,d5,d6]
 generalize decide (a.Origin ≥ -1)=b1
 generalize decide (a.Origin<=2)=b2
 generalize Fv a.Path=b3
 generalize a.Next.ok=b4
 generalize decide (a.MED ≥ -1)=b5
 generalize decide (a.MED<=4294967295)=b6
 generalize decide (a.Pref ≥ -1)=b7
 generalize decide (a.Pref<=4294967295)=b8
 generalize (a.OTC==-1)=b9
 generalize decide (a.OTC ≥ 1)=b10
 generalize decide (a.OTC<=4294967295)=b11
 generalize D1 a.Communities=b12
 generalize D3 a.JAF=b13
 generalize decide ((a.Other.length:Int)<=8)=b14
 cases b1
 ·rfl
 cases b2
 ·rfl
 cases b3
 ·rfl
 cases b4
 ·rfl
 cases b5
 ·rfl
 cases b6
 ·rfl
 cases b7
 ·rfl
 cases b8
 ·rfl
 cases b9<;>cases b10<;>cases b11<;>cases b12<;>cases b13<;>cases b14<;>rfl
theorem Ot {a:JAC}(h:SmT a):CG a=some (Fb a):=by
 unfold CG Fb
 rw[AH,FX,AC,NW (by have:=h.p;omega) (by have:=h.t;omega),AC,Ec,AC,FX,AC,FX,AC,KA (by have:=h.c;omega),Hn (by have:=h.l;omega),WN h.o,number_eq]
 simp only[AC]
 have d1:decide (-1<=a.Origin/\a.Origin<=2)=(decide (-1<=a.Origin)&&decide (a.Origin<=2)):=by rw[X28];simp
 have d2:decide (-1<=a.MED/\a.MED<=4294967295)=(decide (-1<=a.MED)&&decide (a.MED<=4294967295)):=by rw[X28];simp
 have d3:decide (-1<=a.Pref/\a.Pref<=4294967295)=(decide (-1<=a.Pref)&&decide (a.Pref<=4294967295)):=by rw[X28];simp
 have d4:KC a.OTC=(decide (1<=a.OTC)&&decide (a.OTC<=4294967295)):=rfl
 have d5:decide (a.OTC=-1)=(a.OTC==-1):=rfl
 rw[d1,d2,d3,d4,d5]
 generalize (decide (-1<=a.Origin)&&decide (a.Origin<=2))=b1
 generalize Fv a.Path=b3
 generalize a.Next.ok=b4
 generalize (decide (-1<=a.MED)&&decide (a.MED<=4294967295))=b5
 generalize (decide (-1<=a.Pref)&&decide (a.Pref<=4294967295))=b7
 generalize (a.OTC==-1)=b9
 generalize (decide (1<=a.OTC)&&decide (a.OTC<=4294967295))=b10
 generalize D1 a.Communities=b12
 generalize D3 a.JAF=b13
 generalize DW a.Other=b14
 generalize decide (a.Other.length<=8)=b15
 cases b1
 ·simp
 cases b3
 ·simp
 cases b4
 ·simp
 cases b5
 ·simp
 cases b7
 ·simp
 cases b9<;>cases b10<;>cases b12<;>cases b13<;>cases b14<;>cases b15<;>rfl
def w4 (n:Int):List UInt8:=[(Ah (Int.fdiv n (2^(min (Int.toNat 24) 64)))),(Ah (Int.fdiv n (2^(min (Int.toNat 16) 64)))),(Ah (Int.fdiv n (2^(min (Int.toNat 8) 64)))),(Ah n)]
def w2 (n:Int):List UInt8:=[(Ah (Int.fdiv n (2^(min (Int.toNat 8) 64)))),(Ah n)]
theorem SA (k n:Nat)(hk:k<64)(hn:n=8*k)(h8:k<9):min (Int.toNat ((AN (8*((AN (k:Int)).toNat:Int))).toNat:Int)) 64=min (Int.toNat (n:Int)) 64:=by
 have h1:(AN (k:Int)).toNat=k:=by
  unfold AN
  simp only[UInt64.toNat_ofNat']
  omega
 rw[h1]
 have h2:(AN (8*(k:Int))).toNat=n:=by
  unfold AN
  simp only[UInt64.toNat_ofNat']
  omega
 rw[h2]
theorem fdiv_one (n:Int):Int.fdiv n (2^(min (Int.toNat ((0:Nat):Int)) 64))=n:=by
 have:((2:Int)^(min (Int.toNat ((0:Nat):Int)) 64))=1:=rfl
 rw[this,Int.fdiv_one]
theorem VE (v:Int){n:Int}(hn:n=4\/n=2):AT v n=some (if n=4 then w4 v else w2 v):=by
 unfold AT
 rw[AH]
 have s3:=SA 3 24 (by omega) rfl (by omega)
 have s2:=SA 2 16 (by omega) rfl (by omega)
 have s1:=SA 1 8 (by omega) rfl (by omega)
 have s0:=SA 0 0 (by omega) rfl (by omega)
 have s3:min (Int.toNat ((AN (8*((AN (3:Int)).toNat:Int))).toNat:Int)) 64=min (Int.toNat 24) 64:=s3
 have s2:min (Int.toNat ((AN (8*((AN (2:Int)).toNat:Int))).toNat:Int)) 64=min (Int.toNat 16) 64:=s2
 have s1:min (Int.toNat ((AN (8*((AN (1:Int)).toNat:Int))).toNat:Int)) 64=min (Int.toNat 8) 64:=s1
 have s0:min (Int.toNat ((AN (8*((AN (0:Int)).toNat:Int))).toNat:Int)) 64=min (Int.toNat ((0:Nat):Int)) 64:=s0
 refine (Dz (fun s:Int×List UInt8=>(s.1=3\/s.1=2\/s.1=1\/s.1=0\/s.1=-1)/\s.2.length+(s.1+1).toNat<=4) (fun s=>(s.1+1).toNat) (fun s=>some (s.2++(w4 v).drop (3-s.1).toNat)) ?_ fuel (AS (n-1),[]) ?_ ?_).trans ?_
 ·rintro next ⟨i,l⟩ ⟨hi,hl⟩ hk
  dsimp only at hi hl ⊢
  rcases hi with rfl | rfl | rfl | rfl | rfl
  ·rw[if_pos (by decide),s3,AP (by decide) (by simp only[X22];omega),AC,AQ (by omega),hk _ ⟨by simp,by simp only[X11,X22];omega⟩ (by simp only;omega)]
   simp[w4]
  ·rw[if_pos (by decide),s2,AP (by decide) (by simp only[X22];omega),AC,AQ (by omega),hk _ ⟨by simp,by simp only[X11,X22];omega⟩ (by simp only;omega)]
   simp[w4]
  ·rw[if_pos (by decide),s1,AP (by decide) (by simp only[X22];omega),AC,AQ (by omega),hk _ ⟨by simp,by simp only[X11,X22];omega⟩ (by simp only;omega)]
   simp[w4]
  ·rw[if_pos (by decide),s0,fdiv_one,AP (by decide) (by simp only[X22];omega),AC,AQ (by omega),hk _ ⟨by simp,by simp only[X11,X22];omega⟩ (by simp only;omega)]
   simp[w4]
  rw[if_neg (by decide)]
  simp[w4]
 ·dsimp only
  rw[AQ (by omega)]
  rcases hn with rfl | rfl
  ·exact⟨.inl rfl,by decide⟩
  exact⟨.inr (.inr (.inl rfl)),by decide⟩
 ·dsimp only
  rw[AQ (by omega)]
  exact Be (by omega)
 dsimp only
 rw[AQ (by omega)]
 rcases hn with rfl | rfl<;>rfl
theorem Oz (v:Int):AT v 4=some (w4 v):=VE v (.inl rfl)
theorem Yl (v:Int):AT v 2=some (w2 v):=VE v (.inr rfl)
theorem RE (n:Int):(w4 n).length=4:=rfl
theorem MD (l:List Int):(l.flatMap w4).length=4*l.length:=by
 induction l with
 | nil=>rfl
 | cons x t ih=>rw[List.flatMap_cons,X11,ih,RE,X12];omega
theorem put_eq {b:List UInt8}{l:List Int}(h:b.length+4*l.length<=1000000000):CS b l=some (b++l.flatMap w4):=by
 unfold CS
 rw[AH]
 refine (Pv (g:=w4) (N:=1000000000) (by rw[MD];omega) fun next x i v _ hv=>?_).trans rfl
 have e:([(Ah (Int.fdiv x (2^(min (Int.toNat 24) 64)))),(Ah (Int.fdiv x (2^(min (Int.toNat 16) 64)))),(Ah (Int.fdiv x (2^(min (Int.toNat 8) 64)))),(Ah x)]:List UInt8)=w4 x:=rfl
 rw[e,AP (by decide) hv,AC]
theorem Jz (n:Int):A2 [n]=some (w4 n):=by
 have:A2 [n]=CS [] [n]:=rfl
 rw[this,put_eq (by simp)]
 rfl
def W0 (s:JAE):List UInt8:=[(if s.Set=true then (1:UInt8) else 2),Ah (s.ASNs.length:Int)]++s.ASNs.flatMap w4
def Jk (p:List JAE):List UInt8:=p.flatMap W0
theorem PH (s:JAE):(W0 s).length=2+4*s.ASNs.length:=by
 unfold W0
 rw[X11,MD];rfl
theorem MZ (p:List JAE):(Jk p).length=2*p.length+4*tot p:=by
 unfold Jk
 induction p with
 | nil=>rfl
 | cons s t ih=>rw[List.flatMap_cons,X11,ih,PH,X12,Du];omega
theorem Vy {p:List JAE}(h:2*p.length+4*tot p<=100000000):BH p=some (Jk p):=by
 unfold BH
 rw[AH]
 have hl:=MZ p
 unfold Jk at hl ⊢
 refine (Pv (g:=W0) (N:=100000000) (by rw[hl];simp only[X13];omega) fun next s i v _ hv=>?_).trans rfl
 rw[PH] at hv
 rw[Hv,AP (by decide) (by simp;omega),AC,put_eq (by simp;omega),AC,List.append_assoc]
 rfl
theorem Xt {p:List JAE}(h:2*p.length+4*tot p<=100000000){ρ:Type}{K:List UInt8->Option ρ}:AI (τ:=(List UInt8)) (fun k7=>
     Ak (σ:=(List UInt8)) (fun v8=>
      k7 v8
     ) (fun next9 (x10:JAE) i11 v8=>
      AI (τ:=(List UInt8)) (fun k12=>
       AI (τ:=UInt8) (fun k13=>
        if x10.Set=true then
         k13 (1:UInt8)
        else
         k13 (2:UInt8)
       ) fun v14=>
       Option.bind (apnd (α:=UInt8) 1 v8 ([v14,(Ah (x10.ASNs.length:Int))]:List UInt8)) fun v15=>
       AI (τ:=(List UInt8)) (fun k16=>
        Ak (σ:=(List UInt8)) (fun v17=>
         k16 v17
        ) (fun next18 (x19:Int) i20 v17=>
         Option.bind (AT x19 4) fun v21=>
         Option.bind (apnd (α:=UInt8) 1 v17 v21) fun v22=>
         next18 v22
        ) x10.ASNs 0 v15
       ) fun v23=>
       k12 v23
      ) fun v24=>
      next9 v24
     ) p 0 ([]:List UInt8)
    ) K=K (Jk p):=by
 rw[AH]
 have hl:=MZ p
 unfold Jk at hl ⊢
 refine (Pv (g:=W0) (N:=100000000) (by rw[hl];simp only[X13];omega) fun next s i v _ hv=>?_).trans rfl
 rw[PH] at hv
 rw[AH,Hv,AP (by decide) (by simp;omega),AC,AH]
 refine (Pv (g:=w4) (N:=1000000000) (by rw[MD];simp;omega) fun next x i v _ hv=>?_).trans ?_
 ·rw[Oz,AC,AP (by decide) hv,AC]
 rw[List.append_assoc]
 rfl
def JS (c:JAB):List UInt8:=w2 c.A++w2 c.B
def HM (c:JAF):List UInt8:=w4 c.A++(w4 c.B++w4 c.C)
theorem L9 (c:JAB):(JS c).length=4:=rfl
theorem KF (c:JAF):(HM c).length=12:=rfl
theorem ML (l:List JAB):(l.flatMap JS).length=4*l.length:=by
 induction l with
 | nil=>rfl
 | cons x t ih=>rw[List.flatMap_cons,X11,ih,L9,X12];omega
theorem Ls (l:List JAF):(l.flatMap HM).length=12*l.length:=by
 induction l with
 | nil=>rfl
 | cons x t ih=>rw[List.flatMap_cons,X11,ih,KF,X12];omega
theorem Ug {a b:Nat}(h:a%256=b%256):UInt8.ofNat a=UInt8.ofNat b:=by
 apply UInt8.toNat_inj.1
 simp only[UInt8.toNat_ofNat']
 exact h
theorem fd (n k:Nat):Int.fdiv (n:Int) (2^(min (Int.toNat (k:Int)) 64))=((n/2^(min k 64):Nat):Int):=by
 rw[Int.toNat_natCast]
 have:((2:Int)^(min k 64))=((2^(min k 64):Nat):Int):=by simp
 rw[this,Int.fdiv_eq_ediv_of_nonneg _ (Int.natCast_nonneg _),Int.natCast_ediv]
theorem ZH (n:Nat):w4 (n:Int)=[UInt8.ofNat (n/16777216),UInt8.ofNat (n/65536),UInt8.ofNat (n/256),UInt8.ofNat n]:=by
 have h1:=fd n 24
 have h2:=fd n 16
 have h3:=fd n 8
 have h1:Int.fdiv (n:Int) (2^(min (Int.toNat 24) 64))=((n/2^(min 24 64):Nat):Int):=h1
 have h2:Int.fdiv (n:Int) (2^(min (Int.toNat 16) 64))=((n/2^(min 16 64):Nat):Int):=h2
 have h3:Int.fdiv (n:Int) (2^(min (Int.toNat 8) 64))=((n/2^(min 8 64):Nat):Int):=h3
 unfold w4
 rw[h1,h2,h3,CJ,CJ,CJ,CJ]
 rfl
theorem XJ (n:Nat):w2 (n:Int)=[UInt8.ofNat (n/256),UInt8.ofNat n]:=by
 have h3:=fd n 8
 have h3:Int.fdiv (n:Int) (2^(min (Int.toNat 8) 64))=((n/2^(min 8 64):Nat):Int):=h3
 unfold w2
 rw[h3,CJ,CJ]
 rfl
theorem Vx {c:JAB}(h:okC c=true):w4 (AS ((BitVec.ofInt 64 (AS (c.A*(2^(min (Int.toNat 16) 64)))) ||| BitVec.ofInt 64 c.B).toNat:Int))=JS c:=by
 simp only[okC,inR,X27,decide_eq_true_eq] at h
 obtain⟨a,ha⟩ :∃a:Nat,c.A=a:=⟨c.A.toNat,by omega⟩
 obtain⟨b,hb⟩ :∃b:Nat,c.B=b:=⟨c.B.toNat,by omega⟩
 unfold JS
 rw[ha,hb] at h ⊢
 have e:((a:Int)*(2^(min (Int.toNat 16) 64)))=((a*65536:Nat):Int):=by
  have:min (Int.toNat 16) 64=16:=rfl
  rw[this];omega
 rw[e,AQ (x:=((a*65536:Nat):Int)) (by omega),BitVec.ofInt_natCast,BitVec.ofInt_natCast,BitVec.toNat_or,BitVec.toNat_ofNat,BitVec.toNat_ofNat,Nat.mod_eq_of_lt (show a*65536<2^64 by omega),Nat.mod_eq_of_lt (show b<2^64 by omega),
  show a*65536=2^16*a by omega,<- Nat.two_pow_add_eq_or_of_lt (show b<2^16 by omega),AQ (by omega),ZH,XJ,XJ]
 have q1:(2^16*a+b)/16777216=a/256:=by omega
 have q2:(2^16*a+b)/65536=a:=by omega
 have q3:UInt8.ofNat ((2^16*a+b)/256)=UInt8.ofNat (b/256):=Ug (by omega)
 have q4:UInt8.ofNat (2^16*a+b)=UInt8.ofNat b:=Ug (by omega)
 rw[q1,q2,q3,q4]
 rfl
theorem UN {l:List JAB}(hv :∀c∈l,okC c=true)(h:l.length<=1000000):BN l=some (l.flatMap JS):=by
 unfold BN
 rw[AH]
 refine (Pv (g:=JS) (N:=100000000) (by rw[ML];simp only[X13];omega) fun next c i v hc hl=>?_).trans rfl
 rw[L9] at hl
 rw[put_eq (by simp;omega),AC,List.flatMap_cons,List.flatMap_nil,List.append_nil,Vx (hv c hc)]
theorem UZ {l:List JAF}(h:l.length<=1000000):C9 l=some (l.flatMap HM):=by
 unfold C9
 rw[AH]
 refine (Pv (g:=HM) (N:=100000000) (by rw[Ls];simp only[X13];omega) fun next c i v hc hl=>?_).trans rfl
 rw[KF] at hl
 rw[put_eq (by simp;omega),AC]
 simp[HM]
def b4 (n:Nat):List UInt8:=[UInt8.ofNat (n/16777216),UInt8.ofNat (n/65536),UInt8.ofNat (n/256),UInt8.ofNat n]
theorem Nv {x:UInt64}{k n:Nat}(hn:n=8*k)(hk:k<8)(hx:x.toNat<4294967296):Ah ((AN (Int.fdiv (x.toNat:Int) (2^(min (Int.toNat (n:Int)) 64)))).toNat:Int)=UInt8.ofNat (x.toNat/2^n):=by
 rw[fd,Nat.min_eq_left (by omega),A8,CJ]
 congr 1
 rw[UInt64.toNat_ofNat',Nat.mod_eq_of_lt]
 exact Nat.lt_of_le_of_lt (Nat.div_le_self _ _) (by omega)
theorem Addr.four {a:Addr}(h:a.ok=true)(h6:a.V6=false):a.Hi.toNat=0/\a.Lo.toNat<4294967296:=by
 unfold Addr.ok at h
 rw[h6,cond_false] at h
 cases h1:((a.Hi.toNat:Int)==0)
 ·rw[h1] at h;simp at h
 rw[h1,cond_true,decide_eq_true_eq] at h
 simp only[beq_iff_eq] at h1
 omega
theorem Vn {a:Addr}(h:a.ok=true)(h6:a.V6=false):BG a=some (b4 a.Lo.toNat):=by
 obtain⟨_,hlo⟩:=Addr.four h h6
 unfold BG
 rw[EG,AC,h,if_neg (by decide),AH,h6,if_neg (by decide)]
 show AI _ _=_
 rw[AH]
 have s3:=SA 3 24 (by omega) rfl (by omega)
 have s2:=SA 2 16 (by omega) rfl (by omega)
 have s1:=SA 1 8 (by omega) rfl (by omega)
 have s0:=SA 0 0 (by omega) rfl (by omega)
 have s3:min (Int.toNat ((AN (8*((AN (Int.tmod 3 8)).toNat:Int))).toNat:Int)) 64=min (Int.toNat ((24:Nat):Int)) 64:=s3
 have s2:min (Int.toNat ((AN (8*((AN (Int.tmod 2 8)).toNat:Int))).toNat:Int)) 64=min (Int.toNat ((16:Nat):Int)) 64:=s2
 have s1:min (Int.toNat ((AN (8*((AN (Int.tmod 1 8)).toNat:Int))).toNat:Int)) 64=min (Int.toNat ((8:Nat):Int)) 64:=s1
 have s0:min (Int.toNat ((AN (8*((AN (Int.tmod 0 8)).toNat:Int))).toNat:Int)) 64=min (Int.toNat ((0:Nat):Int)) 64:=s0
 refine (Dz (fun s:Int×List UInt8=>(s.1=3\/s.1=2\/s.1=1\/s.1=0\/s.1=-1)/\s.2.length+(s.1+1).toNat<=4) (fun s=>(s.1+1).toNat) (fun s=>some (s.2++(b4 a.Lo.toNat).drop (3-s.1).toNat)) ?_ fuel (AS (4-1),[]) ?_ ?_).trans ?_
 ·rintro next ⟨i,l⟩ ⟨hi,hl⟩ hk
  dsimp only at hi hl ⊢
  rcases hi with rfl | rfl | rfl | rfl | rfl
  ·rw[if_pos (by decide),AH,if_neg (by decide),s3]
   show Option.bind _ _=_
   rw[Nv (n:=24) (k:=3) rfl (by omega) hlo,AP (by decide) (by simp only[X22];omega),AC,AQ (by omega),hk _ ⟨by simp,by simp only[X11,X22];omega⟩ (by simp only;omega)]
   simp[b4]
  ·rw[if_pos (by decide),AH,if_neg (by decide),s2]
   show Option.bind _ _=_
   rw[Nv (n:=16) (k:=2) rfl (by omega) hlo,AP (by decide) (by simp only[X22];omega),AC,AQ (by omega),hk _ ⟨by simp,by simp only[X11,X22];omega⟩ (by simp only;omega)]
   simp[b4]
  ·rw[if_pos (by decide),AH,if_neg (by decide),s1]
   show Option.bind _ _=_
   rw[Nv (n:=8) (k:=1) rfl (by omega) hlo,AP (by decide) (by simp only[X22];omega),AC,AQ (by omega),hk _ ⟨by simp,by simp only[X11,X22];omega⟩ (by simp only;omega)]
   simp[b4]
  ·rw[if_pos (by decide),AH,if_neg (by decide),s0]
   show Option.bind _ _=_
   rw[Nv (n:=0) (k:=0) rfl (by omega) hlo,AP (by decide) (by simp only[X22];omega),AC,AQ (by omega),hk _ ⟨by simp,by simp only[X11,X22];omega⟩ (by simp only;omega)]
   simp[b4]
  rw[if_neg (by decide)]
  simp[b4]
 ·dsimp only
  rw[AQ (by omega)]
  exact⟨.inl rfl,by decide⟩
 ·dsimp only
  rw[AQ (by omega)]
  exact Be (by omega)
 dsimp only
 rw[AQ (by omega)]
 rfl
theorem Wz {x:UInt64}{h:UInt64}(hx:x.toNat<4294967296)(hh:h.toNat=0):(AN ((BitVec.ofInt 64 ((AN (Int.fdiv (x.toNat:Int) (2^(min (Int.toNat 8) 64)))).toNat:Int) ||| BitVec.ofInt 64 ((AN ((h.toNat:Int)*(2^(min (Int.toNat 56) 64)))).toNat:Int)).toNat:Int)).toNat=x.toNat/256/\
  (AN (Int.fdiv (h.toNat:Int) (2^(min (Int.toNat 8) 64)))).toNat=0:=by
 have e1:Int.fdiv (x.toNat:Int) (2^(min (Int.toNat 8) 64))=((x.toNat/256:Nat):Int):=fd x.toNat 8
 have e2:Int.fdiv (h.toNat:Int) (2^(min (Int.toNat 8) 64))=((h.toNat/256:Nat):Int):=fd h.toNat 8
 rw[e1,e2,hh,A8]
 have e3:(((0:Nat):Int)*(2^(min (Int.toNat 56) 64)))=((0:Nat):Int):=by simp
 rw[e3,A8,A8]
 have e4:(UInt64.ofNat 0).toNat=0:=rfl
 have e5:(UInt64.ofNat (x.toNat/256)).toNat=x.toNat/256:=by rw[UInt64.toNat_ofNat'];omega
 rw[e4,e5,BitVec.ofInt_natCast,BitVec.ofInt_natCast,BitVec.toNat_or,BitVec.toNat_ofNat,BitVec.toNat_ofNat,Nat.zero_mod,Nat.or_zero,Nat.mod_eq_of_lt (by omega)]
 exact⟨e5,rfl⟩
theorem UQ {a:Addr}(h:a.ok=true)(h6:a.V6=false):A5 a=some (b4 a.Lo.toNat):=by
 obtain⟨hhi,hlo⟩:=Addr.four h h6
 unfold A5
 rw[Ec,AC,h,if_neg (by decide),AH,h6,if_neg (by decide)]
 have ck:chk ((0:Int)<=4/\(4:Int)<=4/\(4:Int)<=1048576)=some ():=by unfold chk;rw[if_pos (by decide)]
 show Option.bind (chk ((0:Int)<=4/\(4:Int)<=4/\(4:Int)<=1048576)) _=_
 rw[ck,AC,AH]
 refine (Dz (fun s:Int×Addr×List UInt8=>∃j:Nat,j<=4/\s.1=3-(j:Int)/\s.2.1.Hi.toNat=0/\s.2.1.Lo.toNat=a.Lo.toNat/256^j/\s.2.2=List.replicate (4-j) 0++(b4 a.Lo.toNat).drop (4-j)) (fun s=>(s.1+1).toNat) (fun s=>some (b4 a.Lo.toNat)) ?_ fuel (AS (4-1),a,List.replicate (Int.toNat 4) (0:UInt8)) ?_ ?_).trans rfl
 ·rintro next ⟨i,x,l⟩ ⟨j,hj,h1,h2,h3,h4⟩ hk
  dsimp only at h1 h2 h3 h4 ⊢
  subst h1
  have hx:x.Lo.toNat<4294967296:=by
   rw[h3];exact Nat.lt_of_le_of_lt (Nat.div_le_self _ _) hlo
  obtain⟨s1,s2⟩:=Wz hx h2
  have hlt:j=4\/j<4:=by omega
  rcases hlt with rfl | hlt
  ·rw[if_neg (by decide),h4]
   simp[b4]
  have hlen:l.length=4:=by rw[h4];simp[b4]<;>omega
  have hg :∃y,geti l (3-(j:Int))=some y:=by
   obtain⟨y,hy,_⟩:=Ok.geti (l:=l) (i:=3-(j:Int)) (by omega)
   exact⟨y,hy⟩
  obtain⟨y,hy⟩:=hg
  have hs:seti l (3-(j:Int)) (Ah (x.Lo.toNat:Int))=some (l.set (3-j) (UInt8.ofNat x.Lo.toNat)):=by
   unfold seti
   rw[if_pos (by omega),CJ]
   congr 2
   omega
  rw[if_pos (by simp only[decide_eq_true_eq];omega),hy,AC,hs,AC,AQ (by omega)]
  refine hk _ ⟨j+1,by omega,by simp only;omega,s2,?_,?_⟩ (by simp only;omega)
  ·simp only
   rw[s1,h3,Nat.div_div_eq_div_mul,Nat.pow_succ]
  simp only
  rw[h4,h3]
  match j,hlt with
  | 0,_=>simp[b4]
  | 1,_=>simp[b4]
  | 2,_=>simp[b4]
  | 3,_=>simp[b4]
 ·refine⟨0,by omega,by dsimp only;rw[AQ (by omega)];rfl,hhi,by simp,?_⟩
  simp[b4]
 dsimp only
 rw[AQ (by omega)]
 exact Be (by omega)
theorem XI (a:Addr) :∃r,A5 a=some r:=by
 have:Ok (A5 a) fun _=>True:=by
  unfold A5
  rw[Ec]
  refine .bind (P:=fun _=>True) ⟨_,rfl,trivial⟩ fun v _=>.ite (fun _=>.ret trivial) fun _=>?_
  refine .join (fun n:Int=>n=16\/n=4) (fun k hk=>.ite (fun _=>hk _ (.inl rfl)) fun _=>hk _ (.inr rfl)) fun n hn=>?_
  refine .bind (Ok.chk (by omega)) fun _ _=>.join (fun _=>True) (fun k hk=>?_) fun _ _=>.ret trivial
  refine .whileI (fun s:Int×Addr×List UInt8=>-1<=s.1/\s.1<n/\(s.2.2.length:Int)=n) (fun s=>(s.1+1).toNat) ⟨by dsimp only;rw[AQ (by omega)];omega,by dsimp only;rw[AQ (by omega)];omega,by dsimp only;rw[X20];omega⟩ (Be (by dsimp only;rw[AQ (by omega)];omega)) ?_
  rintro next ⟨i,x,l⟩ ⟨h1,h2,h3⟩ hnx
  dsimp only at h1 h2 h3 ⊢
  refine .ite (fun h=>?_) fun _=>hk _ trivial
  simp only[decide_eq_true_eq] at h
  refine .bind (.geti (by omega)) fun _ _=>.bind (.seti (by omega)) fun l2 hl2=>?_
  rw[AQ (by omega)]
  exact hnx _ ⟨by dsimp only;omega,by dsimp only;omega,by dsimp only;omega⟩ (by dsimp only;omega)
 obtain⟨r,h,_⟩:=this
 exact⟨r,h⟩
def GO (a:JAC):Bool:=!a.Next.V6&&!(Addr.eqd a.Next ⟨false,0,0⟩)
def G (a:JAC)(k:Int):Option (List UInt8):=
 if k=1 then (if a.Origin≠-1 then some [Ah a.Origin] else none) else
 if k=2 then (if a.Origin≠-1\/a.Path≠[] then some (Jk a.Path) else none) else
 if k=3 then (if GO a=true then some (b4 a.Next.Lo.toNat) else none) else
 if k=4 then (if a.MED≠-1 then some (w4 a.MED) else none) else
 if k=5 then (if a.Pref≠-1 then some (w4 a.Pref) else none) else
 if k=8 then (if a.Communities≠[] then some (a.Communities.flatMap JS) else none) else
 if k=32 then (if a.JAF≠[] then some (a.JAF.flatMap HM) else none) else
 if k=35 then (if a.OTC≠-1 then some (w4 a.OTC) else none) else none
def ent (a:JAC)(k:Int):List JAA:=match G a k with
 | some b=>[⟨fl k,k,b⟩]
 | none=>[]
def ofK (l:List JAA)(k:Int):List JAA:=l.flatMap fun x=>if (x.Type_==k)=true then [x] else []
def wrS (a:JAC):List JAA:=(List.range' 0 256).flatMap fun (k:Nat)=>ent a k++ofK a.Other k
theorem PP {a:JAC}{k:Int}(h:fl k=0):G a k=none:=by
 rcases Hj k with ⟨_,e⟩|⟨_,e⟩|⟨_,e⟩|⟨_,e⟩|⟨_,e⟩|⟨_,e⟩|⟨_,e⟩|⟨_,e⟩|⟨e1,e2,e3,e4,e5,e6,e7,e8,_⟩
 iterate 8 (rw[e] at h;exact absurd h (by decide))
 unfold G
 rw[if_neg e1,if_neg e2,if_neg e3,if_neg e4,if_neg e5,if_neg e6,if_neg e7,if_neg e8]
theorem Nq {l:List JAA}{k:Int}{y:JAA}:y∈ofK l k↔y∈l/\y.Type_=k:=by
 unfold ofK
 rw[List.mem_flatMap]
 constructor
 ·rintro⟨x,hx,h⟩
  split at h
  ·rename_i hc
   rw[X14] at h
   subst h
   exact⟨hx,by simpa using hc⟩
  simp at h
 rintro⟨hy,e⟩
 exact⟨y,hy,by rw[if_pos (by simpa using e)];simp⟩
theorem IC {a:JAC}{k:Int}{y:JAA}:y∈ent a k ↔∃b,G a k=some b/\y=⟨fl k,k,b⟩:=by
 unfold ent
 cases G a k with
 | none=>simp
 | some b=>simp
theorem La {a:JAC}{k:Int}{y:JAA}(h:y∈ent a k):y.Type_=k:=by
 obtain⟨b,_,rfl⟩:=IC.1 h
 rfl
theorem Ua {a:JAC}(hO:DW a.Other=true){y:JAA}:y∈wrS a↔(∃k,y∈ent a k)\/y∈a.Other:=by
 unfold wrS
 simp only[List.mem_flatMap,List.mem_range'_1,X23]
 constructor
 ·rintro⟨k,hk,h | h⟩
  ·exact .inl ⟨_,h⟩
  exact .inr (Nq.1 h).1
 rintro (⟨k,h⟩|h)
 ·obtain⟨b,hb,_⟩:=IC.1 h
  have hk:0<=k/\k<256:=by
   rcases Hj k with ⟨e,_⟩|⟨e,_⟩|⟨e,_⟩|⟨e,_⟩|⟨e,_⟩|⟨e,_⟩|⟨e,_⟩|⟨e,_⟩|e
   iterate 8 omega
   rw[PP e.2.2.2.2.2.2.2.2] at hb;cases hb
  refine⟨k.toNat,by omega,.inl ?_⟩
  rw[show ((k.toNat:Nat):Int)=k by omega]
  exact h
 unfold DW at hO
 rw[X27,List.all_eq_true] at hO
 have:=hO.1 y h
 simp only[okO,X27,decide_eq_true_eq] at this
 exact⟨y.Type_.toNat,by omega,.inr (Nq.2 ⟨h,by omega⟩)⟩
theorem GV {l:List JAA}(hO:DW l=true){x:JAA}(h:x∈l):unk x.Type_=true/\1<=x.Type_/\x.Type_<=255/\x.Flags=224/\x.Data.length<=255:=by
 unfold DW at hO
 rw[X27,List.all_eq_true] at hO
 have:=hO.1 x h
 simp only[okO,X27,decide_eq_true_eq] at this
 exact⟨this.2.1,this.1.1,this.1.2,this.2.2.1,this.2.2.2⟩
theorem XP {t:Int}(h:unk t=true):fl t=0:=by
 simp only[unk,X27,decide_eq_true_eq] at h
 exact h.1
theorem LC {l:List JAA}(hO:DW l=true):l.Pairwise fun a b=>ltT a b=true:=by
 unfold DW at hO
 rw[X27] at hO
 exact (HW Ur).1 hO.2
theorem MW {a:JAC}(hO:DW a.Other=true):(wrS a).Pairwise fun a b=>ltK Hk a b=true:=by
 unfold wrS
 rw[List.pairwise_flatMap]
 have ht :∀(k:Nat) y,y∈ent a k++ofK a.Other k->y.Type_=k:=by
  intro k y hy
  rcases X23.1 hy with h | h
  ·exact La h
  exact (Nq.1 h).2
 constructor
 ·intro k _
  rw[List.pairwise_append]
  refine⟨?_,?_,?_⟩
  ·unfold ent
   split
   ·exact List.pairwise_singleton _ _
   exact .nil
  ·unfold ofK
   rw[List.pairwise_flatMap]
   refine⟨fun x _=>WM,(LC hO).imp fun {p q} hpq x hx y hy=>?_⟩
   have e1:p.Type_=k:=by
    split at hx
    ·simpa using ‹(p.Type_==(k:Int))=true›
    simp at hx
   have e2:q.Type_=k:=by
    split at hy
    ·simpa using ‹(q.Type_==(k:Int))=true›
    simp at hy
   simp only[ltT,decide_eq_true_eq] at hpq
   omega
  intro x hx y hy
  obtain⟨b,hb,_⟩:=IC.1 hx
  obtain⟨hy1,hy2⟩:=Nq.1 hy
  have:=XP (GV hO hy1).1
  rw[hy2] at this
  rw[PP this] at hb;cases hb
 refine (List.pairwise_lt_range' (s:=0) (n:=256)).imp fun {p q} hpq x hx y hy=>?_
 have e1:=ht p x hx
 have e2:=ht q y hy
 rw[VU]
 simp only[ltT,decide_eq_true_eq]
 omega
theorem YE {a:JAC}(hO:DW a.Other=true):WP (wrS a):=(MW hO).imp fun {p q} h e=>by
 rw[VU] at h
 simp only[ltT,decide_eq_true_eq] at h
 omega
def WR3 (a0:JAC)(v26:List (Int×(List UInt8))):Option ((List JAA)×Int):=
 AI (τ:=Bool) (fun k27=>
  if (!(Addr.eqd a0.Next (⟨false,(0:UInt64),(0:UInt64)⟩:Addr))) then
   k27 (cond true (!a0.Next.V6) false)
  else
   k27 false
 ) fun v28=>
 AI (τ:=(List (Int×(List UInt8)))) (fun k29=>
  if v28 then
   Option.bind (BG a0.Next) fun v30=>
   k29 (Cd v26 3 v30)
  else
   k29 v26
 ) fun v31=>
 AI (τ:=(List (Int×(List UInt8)))) (fun k32=>
  if (decide (a0.MED ≥ 0)) then
   Option.bind (AT a0.MED 4) fun v33=>
   k32 (Cd v31 4 v33)
  else
   k32 v31
 ) fun v34=>
 AI (τ:=(List (Int×(List UInt8)))) (fun k35=>
  if (decide (a0.Pref ≥ 0)) then
   Option.bind (AT a0.Pref 4) fun v36=>
   k35 (Cd v34 5 v36)
  else
   k35 v34
 ) fun v37=>
 AI (τ:=(List (Int×(List UInt8)))×(List UInt8)) (fun k38=>
  Option.bind (chk ((A4 v37 8).isNone=true)) fun _=>
  Ak (σ:=(List (Int×(List UInt8)))×(List UInt8)) (fun (v39,v40)=>
   k38 (v39,v40)
  ) (fun next41 (x42:JAB) i43 (v39,v40)=>
   Option.bind (AT x42.A 2) fun v44=>
   Option.bind (apnd (α:=UInt8) 1 v40 v44) fun v45=>
   Option.bind (AT x42.B 2) fun v46=>
   Option.bind (apnd (α:=UInt8) 1 v45 v46) fun v47=>
   next41 ((Cd v39 8 v47),v47)
  ) a0.Communities 0 (v37,[])
 ) fun (v48,v49)=>
 AI (τ:=(List (Int×(List UInt8)))×(List UInt8)) (fun k50=>
  Option.bind (chk ((A4 v48 32).isNone=true)) fun _=>
  Ak (σ:=(List (Int×(List UInt8)))×(List UInt8)) (fun (v51,v52)=>
   k50 (v51,v52)
  ) (fun next53 (x54:JAF) i55 (v51,v52)=>
   Option.bind (AT x54.A 4) fun v56=>
   Option.bind (apnd (α:=UInt8) 1 v52 v56) fun v57=>
   Option.bind (AT x54.B 4) fun v58=>
   Option.bind (apnd (α:=UInt8) 1 v57 v58) fun v59=>
   Option.bind (AT x54.C 4) fun v60=>
   Option.bind (apnd (α:=UInt8) 1 v59 v60) fun v61=>
   next53 ((Cd v51 32 v61),v61)
  ) a0.JAF 0 (v48,[])
 ) fun (v62,v63)=>
 AI (τ:=(List (Int×(List UInt8)))) (fun k64=>
  if (decide (a0.OTC ≥ 0)) then
   Option.bind (AT a0.OTC 4) fun v65=>
   k64 (Cd v62 35 v65)
  else
   k64 v62
 ) fun v66=>
 AI (τ:=(List JAA)) (fun k67=>
  A1 (σ:=Int×(List JAA)) (fun next68 (v69,v70)=>
   if (decide (v69<256)) then
    AI (τ:=(List JAA)) (fun k71=>
     Option.bind (some (Option.getD (A4 v66 v69) [])) fun v72=>
     Option.bind (some (Option.isSome (A4 v66 v69))) fun v73=>
     AI (τ:=(List JAA)) (fun k74=>
      if v73 then
       Option.bind (BF v69) fun v75=>
       Option.bind (apnd (α:=UInt8) 1 [] v72) fun _=>
       Option.bind (apnd (α:=JAA) 40 v70 ([(⟨v75,v69,v72⟩:JAA)]:List JAA)) fun v76=>
       k74 v76
      else
       k74 v70
     ) fun v77=>
     AI (τ:=(List JAA)) (fun k78=>
      Ak (σ:=(List JAA)) (fun v79=>
       k78 v79
      ) (fun next80 (x81:JAA) i82 v79=>
       AI (τ:=(List JAA)) (fun k83=>
        if (x81.Type_==v69) then
         Option.bind (apnd (α:=UInt8) 1 [] x81.Data) fun _=>
         Option.bind (apnd (α:=JAA) 40 v79 ([{ x81 with Type_:=v69 }]:List JAA)) fun v84=>
         k83 v84
        else
         k83 v79
       ) fun v85=>
       next80 v85
      ) a0.Other 0 v77
     ) fun v86=>
     k71 v86
    ) fun v87=>
    next68 ((AS (v69+1)),v87)
   else
    k67 v70
  ) fuel (0,[])
 ) fun v88=>
 some (v88,0)
def WR4 (a0:JAC)(v31:List (Int×(List UInt8))):Option ((List JAA)×Int):=
 AI (τ:=(List (Int×(List UInt8)))) (fun k32=>
  if (decide (a0.MED ≥ 0)) then
   Option.bind (AT a0.MED 4) fun v33=>
   k32 (Cd v31 4 v33)
  else
   k32 v31
 ) fun v34=>
 AI (τ:=(List (Int×(List UInt8)))) (fun k35=>
  if (decide (a0.Pref ≥ 0)) then
   Option.bind (AT a0.Pref 4) fun v36=>
   k35 (Cd v34 5 v36)
  else
   k35 v34
 ) fun v37=>
 AI (τ:=(List (Int×(List UInt8)))×(List UInt8)) (fun k38=>
  Option.bind (chk ((A4 v37 8).isNone=true)) fun _=>
  Ak (σ:=(List (Int×(List UInt8)))×(List UInt8)) (fun (v39,v40)=>
   k38 (v39,v40)
  ) (fun next41 (x42:JAB) i43 (v39,v40)=>
   Option.bind (AT x42.A 2) fun v44=>
   Option.bind (apnd (α:=UInt8) 1 v40 v44) fun v45=>
   Option.bind (AT x42.B 2) fun v46=>
   Option.bind (apnd (α:=UInt8) 1 v45 v46) fun v47=>
   next41 ((Cd v39 8 v47),v47)
  ) a0.Communities 0 (v37,[])
 ) fun (v48,v49)=>
 AI (τ:=(List (Int×(List UInt8)))×(List UInt8)) (fun k50=>
  Option.bind (chk ((A4 v48 32).isNone=true)) fun _=>
  Ak (σ:=(List (Int×(List UInt8)))×(List UInt8)) (fun (v51,v52)=>
   k50 (v51,v52)
  ) (fun next53 (x54:JAF) i55 (v51,v52)=>
   Option.bind (AT x54.A 4) fun v56=>
   Option.bind (apnd (α:=UInt8) 1 v52 v56) fun v57=>
   Option.bind (AT x54.B 4) fun v58=>
   Option.bind (apnd (α:=UInt8) 1 v57 v58) fun v59=>
   Option.bind (AT x54.C 4) fun v60=>
   Option.bind (apnd (α:=UInt8) 1 v59 v60) fun v61=>
   next53 ((Cd v51 32 v61),v61)
  ) a0.JAF 0 (v48,[])
 ) fun (v62,v63)=>
 AI (τ:=(List (Int×(List UInt8)))) (fun k64=>
  if (decide (a0.OTC ≥ 0)) then
   Option.bind (AT a0.OTC 4) fun v65=>
   k64 (Cd v62 35 v65)
  else
   k64 v62
 ) fun v66=>
 AI (τ:=(List JAA)) (fun k67=>
  A1 (σ:=Int×(List JAA)) (fun next68 (v69,v70)=>
   if (decide (v69<256)) then
    AI (τ:=(List JAA)) (fun k71=>
     Option.bind (some (Option.getD (A4 v66 v69) [])) fun v72=>
     Option.bind (some (Option.isSome (A4 v66 v69))) fun v73=>
     AI (τ:=(List JAA)) (fun k74=>
      if v73 then
       Option.bind (BF v69) fun v75=>
       Option.bind (apnd (α:=UInt8) 1 [] v72) fun _=>
       Option.bind (apnd (α:=JAA) 40 v70 ([(⟨v75,v69,v72⟩:JAA)]:List JAA)) fun v76=>
       k74 v76
      else
       k74 v70
     ) fun v77=>
     AI (τ:=(List JAA)) (fun k78=>
      Ak (σ:=(List JAA)) (fun v79=>
       k78 v79
      ) (fun next80 (x81:JAA) i82 v79=>
       AI (τ:=(List JAA)) (fun k83=>
        if (x81.Type_==v69) then
         Option.bind (apnd (α:=UInt8) 1 [] x81.Data) fun _=>
         Option.bind (apnd (α:=JAA) 40 v79 ([{ x81 with Type_:=v69 }]:List JAA)) fun v84=>
         k83 v84
        else
         k83 v79
       ) fun v85=>
       next80 v85
      ) a0.Other 0 v77
     ) fun v86=>
     k71 v86
    ) fun v87=>
    next68 ((AS (v69+1)),v87)
   else
    k67 v70
  ) fuel (0,[])
 ) fun v88=>
 some (v88,0)
def WR5 (a0:JAC)(v34:List (Int×(List UInt8))):Option ((List JAA)×Int):=
 AI (τ:=(List (Int×(List UInt8)))) (fun k35=>
  if (decide (a0.Pref ≥ 0)) then
   Option.bind (AT a0.Pref 4) fun v36=>
   k35 (Cd v34 5 v36)
  else
   k35 v34
 ) fun v37=>
 AI (τ:=(List (Int×(List UInt8)))×(List UInt8)) (fun k38=>
  Option.bind (chk ((A4 v37 8).isNone=true)) fun _=>
  Ak (σ:=(List (Int×(List UInt8)))×(List UInt8)) (fun (v39,v40)=>
   k38 (v39,v40)
  ) (fun next41 (x42:JAB) i43 (v39,v40)=>
   Option.bind (AT x42.A 2) fun v44=>
   Option.bind (apnd (α:=UInt8) 1 v40 v44) fun v45=>
   Option.bind (AT x42.B 2) fun v46=>
   Option.bind (apnd (α:=UInt8) 1 v45 v46) fun v47=>
   next41 ((Cd v39 8 v47),v47)
  ) a0.Communities 0 (v37,[])
 ) fun (v48,v49)=>
 AI (τ:=(List (Int×(List UInt8)))×(List UInt8)) (fun k50=>
  Option.bind (chk ((A4 v48 32).isNone=true)) fun _=>
  Ak (σ:=(List (Int×(List UInt8)))×(List UInt8)) (fun (v51,v52)=>
   k50 (v51,v52)
  ) (fun next53 (x54:JAF) i55 (v51,v52)=>
   Option.bind (AT x54.A 4) fun v56=>
   Option.bind (apnd (α:=UInt8) 1 v52 v56) fun v57=>
   Option.bind (AT x54.B 4) fun v58=>
   Option.bind (apnd (α:=UInt8) 1 v57 v58) fun v59=>
   Option.bind (AT x54.C 4) fun v60=>
   Option.bind (apnd (α:=UInt8) 1 v59 v60) fun v61=>
   next53 ((Cd v51 32 v61),v61)
  ) a0.JAF 0 (v48,[])
 ) fun (v62,v63)=>
 AI (τ:=(List (Int×(List UInt8)))) (fun k64=>
  if (decide (a0.OTC ≥ 0)) then
   Option.bind (AT a0.OTC 4) fun v65=>
   k64 (Cd v62 35 v65)
  else
   k64 v62
 ) fun v66=>
 AI (τ:=(List JAA)) (fun k67=>
  A1 (σ:=Int×(List JAA)) (fun next68 (v69,v70)=>
   if (decide (v69<256)) then
    AI (τ:=(List JAA)) (fun k71=>
     Option.bind (some (Option.getD (A4 v66 v69) [])) fun v72=>
     Option.bind (some (Option.isSome (A4 v66 v69))) fun v73=>
     AI (τ:=(List JAA)) (fun k74=>
      if v73 then
       Option.bind (BF v69) fun v75=>
       Option.bind (apnd (α:=UInt8) 1 [] v72) fun _=>
       Option.bind (apnd (α:=JAA) 40 v70 ([(⟨v75,v69,v72⟩:JAA)]:List JAA)) fun v76=>
       k74 v76
      else
       k74 v70
     ) fun v77=>
     AI (τ:=(List JAA)) (fun k78=>
      Ak (σ:=(List JAA)) (fun v79=>
       k78 v79
      ) (fun next80 (x81:JAA) i82 v79=>
       AI (τ:=(List JAA)) (fun k83=>
        if (x81.Type_==v69) then
         Option.bind (apnd (α:=UInt8) 1 [] x81.Data) fun _=>
         Option.bind (apnd (α:=JAA) 40 v79 ([{ x81 with Type_:=v69 }]:List JAA)) fun v84=>
         k83 v84
        else
         k83 v79
       ) fun v85=>
       next80 v85
      ) a0.Other 0 v77
     ) fun v86=>
     k71 v86
    ) fun v87=>
    next68 ((AS (v69+1)),v87)
   else
    k67 v70
  ) fuel (0,[])
 ) fun v88=>
 some (v88,0)
def WR8 (a0:JAC)(v37:List (Int×(List UInt8))):Option ((List JAA)×Int):=
 AI (τ:=(List (Int×(List UInt8)))×(List UInt8)) (fun k38=>
  Option.bind (chk ((A4 v37 8).isNone=true)) fun _=>
  Ak (σ:=(List (Int×(List UInt8)))×(List UInt8)) (fun (v39,v40)=>
   k38 (v39,v40)
  ) (fun next41 (x42:JAB) i43 (v39,v40)=>
   Option.bind (AT x42.A 2) fun v44=>
   Option.bind (apnd (α:=UInt8) 1 v40 v44) fun v45=>
   Option.bind (AT x42.B 2) fun v46=>
   Option.bind (apnd (α:=UInt8) 1 v45 v46) fun v47=>
   next41 ((Cd v39 8 v47),v47)
  ) a0.Communities 0 (v37,[])
 ) fun (v48,v49)=>
 AI (τ:=(List (Int×(List UInt8)))×(List UInt8)) (fun k50=>
  Option.bind (chk ((A4 v48 32).isNone=true)) fun _=>
  Ak (σ:=(List (Int×(List UInt8)))×(List UInt8)) (fun (v51,v52)=>
   k50 (v51,v52)
  ) (fun next53 (x54:JAF) i55 (v51,v52)=>
   Option.bind (AT x54.A 4) fun v56=>
   Option.bind (apnd (α:=UInt8) 1 v52 v56) fun v57=>
   Option.bind (AT x54.B 4) fun v58=>
   Option.bind (apnd (α:=UInt8) 1 v57 v58) fun v59=>
   Option.bind (AT x54.C 4) fun v60=>
   Option.bind (apnd (α:=UInt8) 1 v59 v60) fun v61=>
   next53 ((Cd v51 32 v61),v61)
  ) a0.JAF 0 (v48,[])
 ) fun (v62,v63)=>
 AI (τ:=(List (Int×(List UInt8)))) (fun k64=>
  if (decide (a0.OTC ≥ 0)) then
   Option.bind (AT a0.OTC 4) fun v65=>
   k64 (Cd v62 35 v65)
  else
   k64 v62
 ) fun v66=>
 AI (τ:=(List JAA)) (fun k67=>
  A1 (σ:=Int×(List JAA)) (fun next68 (v69,v70)=>
   if (decide (v69<256)) then
    AI (τ:=(List JAA)) (fun k71=>
     Option.bind (some (Option.getD (A4 v66 v69) [])) fun v72=>
     Option.bind (some (Option.isSome (A4 v66 v69))) fun v73=>
     AI (τ:=(List JAA)) (fun k74=>
      if v73 then
       Option.bind (BF v69) fun v75=>
       Option.bind (apnd (α:=UInt8) 1 [] v72) fun _=>
       Option.bind (apnd (α:=JAA) 40 v70 ([(⟨v75,v69,v72⟩:JAA)]:List JAA)) fun v76=>
       k74 v76
      else
       k74 v70
     ) fun v77=>
     AI (τ:=(List JAA)) (fun k78=>
      Ak (σ:=(List JAA)) (fun v79=>
       k78 v79
      ) (fun next80 (x81:JAA) i82 v79=>
       AI (τ:=(List JAA)) (fun k83=>
        if (x81.Type_==v69) then
         Option.bind (apnd (α:=UInt8) 1 [] x81.Data) fun _=>
         Option.bind (apnd (α:=JAA) 40 v79 ([{ x81 with Type_:=v69 }]:List JAA)) fun v84=>
         k83 v84
        else
         k83 v79
       ) fun v85=>
       next80 v85
      ) a0.Other 0 v77
     ) fun v86=>
     k71 v86
    ) fun v87=>
    next68 ((AS (v69+1)),v87)
   else
    k67 v70
  ) fuel (0,[])
 ) fun v88=>
 some (v88,0)
def WRk (a0:JAC)(v66:List (Int×(List UInt8))):Option ((List JAA)×Int):=
 AI (τ:=(List JAA)) (fun k67=>
  A1 (σ:=Int×(List JAA)) (fun next68 (v69,v70)=>
   if (decide (v69<256)) then
    AI (τ:=(List JAA)) (fun k71=>
     Option.bind (some (Option.getD (A4 v66 v69) [])) fun v72=>
     Option.bind (some (Option.isSome (A4 v66 v69))) fun v73=>
     AI (τ:=(List JAA)) (fun k74=>
      if v73 then
       Option.bind (BF v69) fun v75=>
       Option.bind (apnd (α:=UInt8) 1 [] v72) fun _=>
       Option.bind (apnd (α:=JAA) 40 v70 ([(⟨v75,v69,v72⟩:JAA)]:List JAA)) fun v76=>
       k74 v76
      else
       k74 v70
     ) fun v77=>
     AI (τ:=(List JAA)) (fun k78=>
      Ak (σ:=(List JAA)) (fun v79=>
       k78 v79
      ) (fun next80 (x81:JAA) i82 v79=>
       AI (τ:=(List JAA)) (fun k83=>
        if (x81.Type_==v69) then
         Option.bind (apnd (α:=UInt8) 1 [] x81.Data) fun _=>
         Option.bind (apnd (α:=JAA) 40 v79 ([{ x81 with Type_:=v69 }]:List JAA)) fun v84=>
         k83 v84
        else
         k83 v79
       ) fun v85=>
       next80 v85
      ) a0.Other 0 v77
     ) fun v86=>
     k71 v86
    ) fun v87=>
    next68 ((AS (v69+1)),v87)
   else
    k67 v70
  ) fuel (0,[])
 ) fun v88=>
 some (v88,0)
theorem Fg (a:JAC)(k:Int):(ent a k).length<=1:=by unfold ent;split<;>simp
theorem YI (l:List JAA)(k:Int):(ofK l k).length<=l.length:=N5 (fun x=>by split<;>simp) l
structure Puts (m:List (Int×List UInt8))(a:JAC)(ks:List Int):Prop where
 h :∀k,A4 m k=if k∈ks then G a k else none
theorem Puts.add {m:List (Int×List UInt8)}{a:JAC}{ks:List Int}(p:Puts m a ks)(k:Int){b:List UInt8}(hb:G a k=some b):Puts (Cd m k b) a (k::ks):=⟨fun j=>by
 rw[Go.AX.mget_mset,p.h]
 by_cases h:j=k
 ·subst h;simp[hb]
 have:(j==k)=false:=by simpa using h
 rw[this];simp[h]⟩
theorem Puts.skip {m:List (Int×List UInt8)}{a:JAC}{ks:List Int}(p:Puts m a ks)(k:Int)(hb:G a k=none):Puts m a (k::ks):=⟨fun j=>by
 rw[p.h]
 by_cases h:j=k
 ·subst h;simp[hb]
 simp[h]⟩
theorem aL {β ρ:Type}{w:β->List UInt8}{k:Int}{N:Nat}{K:List (Int×List UInt8)×List UInt8->Option ρ}{body:(List (Int×List UInt8)×List UInt8->Option ρ)->β->Nat->List (Int×List UInt8)×List UInt8->Option ρ}{l:List β}{m:List (Int×List UInt8)}
  {R:Option ρ} (hN:(l.flatMap w).length<=N) (hb :∀next x i m b,x∈l->b.length+(w x).length<=N->body next x i (m,b)=next (Cd m k (b++w x),b++w x))
  (hK :∀m' b',(∀j,A4 m' j=if l≠[]/\j=k then some (l.flatMap w) else A4 m j)->K (m',b')=R):Ak K body l 0 (m,[])=R:=by
 have key :∀(t:List β) (i:Nat) (m:List (Int×List UInt8)) (b:List UInt8),(∀x∈t,x∈l)->b.length+(t.flatMap w).length<=N->∃m' b',Ak K body t i (m,b)=K (m',b')/\∀j,A4 m' j=if t≠[]/\j=k then some (b++t.flatMap w) else A4 m j:=by
  intro t
  induction t with
  | nil=>intro i m b _ _;exact⟨m,b,rfl,fun j=>by simp⟩
  | cons x t ih=>
   intro i m b hx hl
   rw[List.flatMap_cons,X11] at hl
   obtain⟨m',b',e,h⟩:=ih (i+1) (Cd m k (b++w x)) (b++w x) (fun y hy=>hx y (X19 _ hy)) (by rw[X11];omega)
   refine⟨m',b',?_,fun j=>?_⟩
   ·show body (fun s=>Ak K body t (i+1) s) x i (m,b)=_
    rw[hb _ x i m b (hx x (by simp)) (by omega)]
    exact e
   rw[h j,Go.AX.mget_mset]
   by_cases hj:j=k
   ·subst hj
    by_cases ht:t=[]
    ·subst ht;simp
    simp[ht,List.flatMap_cons]
   simp[hj]
 obtain⟨m',b',e,h⟩:=key l 0 m [] (fun _ h=>h) (by simpa using hN)
 rw[e]
 exact hK m' b' fun j=>by rw[h j,List.nil_append]
theorem Y4 {a:JAC}{m:List (Int×List UInt8)}{ρ:Type}{K:List JAA->Option ρ}(hO:a.Other.length<=1000000)(hd :∀x∈a.Other,x.Data.length<=1000000)(hg :∀k b,G a k=some b->b.length<=1000000)
  (hm :∀k,A4 m k=G a k) :
  AI (τ:=(List JAA)) (fun k67=>
   A1 (σ:=Int×(List JAA)) (fun next68 p=>match p with
    | (v69,v70)=>if (decide (v69<256))=true then
     AI (τ:=(List JAA)) (fun k71=>
      Option.bind (some (Option.getD (A4 m v69) [])) fun v72=>
      Option.bind (some (Option.isSome (A4 m v69))) fun v73=>
      AI (τ:=(List JAA)) (fun k74=>
       if v73=true then
        Option.bind (BF v69) fun v75=>
        Option.bind (apnd (α:=UInt8) 1 [] v72) fun _=>
        Option.bind (apnd (α:=JAA) 40 v70 ([(⟨v75,v69,v72⟩:JAA)]:List JAA)) fun v76=>
        k74 v76
       else
        k74 v70
      ) fun v77=>
      AI (τ:=(List JAA)) (fun k78=>
       Ak (σ:=(List JAA)) (fun v79=>
        k78 v79
       ) (fun next80 (x81:JAA) i82 v79=>
        AI (τ:=(List JAA)) (fun k83=>
         if (x81.Type_==v69)=true then
          Option.bind (apnd (α:=UInt8) 1 [] x81.Data) fun _=>
          Option.bind (apnd (α:=JAA) 40 v79 ([{ x81 with Type_:=v69 }]:List JAA)) fun v84=>
          k83 v84
         else
          k83 v79
        ) fun v85=>
        next80 v85
       ) a.Other 0 v77
      ) fun v86=>
      k71 v86
     ) fun v87=>
     next68 ((AS (v69+1)),v87)
    else
     k67 v70
   ) fuel (0,[])
  ) K=K (wrS a):=by
 rw[AH]
 refine (Dz (fun s:Int×List JAA=>∃k:Nat,s.1=k/\k<=256/\s.2.length<=k*1000001) (fun s=>(256-s.1).toNat) (fun s=>K (s.2++(List.range' s.1.toNat (256-s.1.toNat)).flatMap fun (k:Nat)=>ent a k++ofK a.Other k)) ?_ fuel (0,[]) ⟨0,rfl,by omega,by simp⟩ (Be (by simp only;omega))).trans rfl
 rintro next ⟨kk,v⟩ ⟨k,rfl,hk2,hv⟩ hn
 dsimp only at hv ⊢
 by_cases hk:k<256
 ·rw[if_pos (by simp only[decide_eq_true_eq];omega),AH,AC,AC,hm]
  have he:=Fg a k
  have hent :∀q:List JAA->Option ρ,AI (τ:=(List JAA)) (fun k74=>
       if (G a k).isSome=true then
        Option.bind (BF k) fun v75=>
        Option.bind (apnd (α:=UInt8) 1 [] ((G a k).getD [])) fun _=>
        Option.bind (apnd (α:=JAA) 40 v ([(⟨v75,k,((G a k).getD [])⟩:JAA)]:List JAA)) fun v76=>
        k74 v76
       else
        k74 v
      ) q=q (v++ent a k):=by
   intro q
   rw[AH]
   unfold ent
   cases hG:G a k with
   | none=>rw[if_neg (by decide),List.append_nil]
   | some b=>
    have:=hg k b hG
    rw[if_pos (show (some b).isSome=true from rfl),JG,AC,Option.getD_some,AP (by decide) (by simp;omega),AC,AP (by decide) (by simp;omega),AC]
  rw[hent,AH]
  have hlen:=YI a.Other k
  refine (Pv (g:=fun x:JAA=>if (x.Type_==(k:Int))=true then [x] else []) (N:=(k+1)*1000001) (by unfold ofK at hlen;rw[X11];omega) fun next2 x i w hx hw=>?_).trans ?_
  ·rw[AH]
   by_cases hc:(x.Type_==(k:Int))=true
   ·rw[if_pos hc] at hw
    have:=hd x hx
    simp only[X22] at hw
    rw[if_pos hc,if_pos hc,AP (by decide) (by simp;omega),AC,AP (by decide) (by simp;omega),AC]
    have e:x.Type_=(k:Int):=by simpa using hc
    rw[<- e]
   rw[if_neg hc,if_neg hc,List.append_nil]
  show next (AS ((k:Int)+1),v++ent a k++ofK a.Other k)=_
  rw[AQ (by omega),hn _ ⟨k+1,by simp,by omega,by simp only[X11];omega⟩ (by simp only;omega)]
  have e1:((k:Int)+1).toNat=k+1:=by omega
  have e2:256-k=(256-(k+1))+1:=by omega
  simp only[e1,Int.toNat_natCast]
  rw[e2,List.range'_succ,List.flatMap_cons,List.append_assoc,List.append_assoc,List.append_assoc]
 rw[if_neg (by simp only[decide_eq_true_eq];omega)]
 have:256-(k:Int).toNat=0:=by omega
 rw[this]
 simp
structure VA (a:JAC):Prop where
 O:DW a.Other=true
 o:-1<=a.Origin/\a.Origin<=2
 p:Fv a.Path=true
 n:a.Next.ok=true
 m:-1<=a.MED/\a.MED<=4294967295
 r:-1<=a.Pref/\a.Pref<=4294967295
 t:a.OTC=-1\/(1<=a.OTC/\a.OTC<=4294967295)
 c:D1 a.Communities=true
 l:D3 a.JAF=true
 e:a.Other.length<=8
theorem L6 {a:JAC}:Fb a=true↔VA a:=by
 unfold Fb KC
 simp only[X27,Bool.or_eq_true,decide_eq_true_eq]
 constructor
 ·rintro⟨h1,h2,h3,h4,h5,h6,h7,h8,h9,h10⟩
  exact⟨h1,h2,h3,h4,h5,h6,h7,h8,h9,h10⟩
 rintro⟨h1,h2,h3,h4,h5,h6,h7,h8,h9,h10⟩
 exact⟨h1,h2,h3,h4,h5,h6,h7,h8,h9,h10⟩
theorem HB {p:List JAE}(h:Fv p=true):p.length<=tot p/\tot p<=64:=by
 unfold Fv at h
 simp only[X27,List.all_eq_true,decide_eq_true_eq] at h
 refine⟨?_,h.2⟩
 have h1:=h.1.1
 clear h
 induction p with
 | nil=>exact Nat.le_refl _
 | cons s t ih=>
  rw[Du,X12]
  have h2:=ih fun x hx=>h1 x (X19 _ hx)
  have h3:=h1 s (by simp)
  simp only[Qf,X27,decide_eq_true_eq] at h3
  omega
theorem VA.sm {a:JAC}(v:VA a):SmT a:=by
 obtain⟨h1,h2⟩:=HB v.p
 have h3:=(Eg.1 v.c).2.2
 have h4:=(Em.1 v.l).2.2
 have h5:=v.e
 exact⟨by omega,by omega,by omega,by omega,by omega,fun u hu=>by have:=(GV v.O hu).2.2.2.2;omega⟩
theorem Yn {a:JAC}(v:VA a){k:Int}{b:List UInt8}(h:G a k=some b):b.length<=768:=by
 obtain⟨h1,h2⟩:=HB v.p
 have h3:=(Eg.1 v.c).2.2
 have h4:=(Em.1 v.l).2.2
 unfold G at h
 split at h
 ·split at h
  ·obtain rfl:=X25 h;simp
  cases h
 split at h
 ·split at h
  ·obtain rfl:=X25 h;rw[MZ];omega
  cases h
 split at h
 ·split at h
  ·obtain rfl:=X25 h;simp[b4]
  cases h
 split at h
 ·split at h
  ·obtain rfl:=X25 h;rw[RE];omega
  cases h
 split at h
 ·split at h
  ·obtain rfl:=X25 h;rw[RE];omega
  cases h
 split at h
 ·split at h
  ·obtain rfl:=X25 h;rw[ML];omega
  cases h
 split at h
 ·split at h
  ·obtain rfl:=X25 h;rw[Ls];omega
  cases h
 split at h
 ·split at h
  ·obtain rfl:=X25 h;rw[RE];omega
  cases h
 cases h
theorem WI {a:JAC}(v:VA a):Et a=some (wrS a,0):=by
 have hs:=HB v.p
 have hc:=(Eg.1 v.c).2.2
 have hl:=(Em.1 v.l).2.2
 unfold Et
 rw[QO v.sm,AC,L6.2 v,if_neg (by decide)]
 have p0:Puts [] a []:=⟨fun k=>by simp[A4]⟩
 rw[Hv]
 have p1:Puts (if decide (a.Origin ≥ 0)=true then Cd ([]:List (Int×List UInt8)) (1:Int) [Ah a.Origin] else []) a [1]:=by
  by_cases h:a.Origin ≥ 0
  ·rw[if_pos (by simpa using h)]
   exact p0.add 1 (by unfold G;rw[if_pos rfl,if_pos (by omega)])
  rw[if_neg (by simpa using h)]
  exact p0.skip 1 (by unfold G;rw[if_pos rfl,if_neg (by have:=v.o;omega)])
 generalize (if decide (a.Origin ≥ 0)=true then Cd ([]:List (Int×List UInt8)) (1:Int) [Ah a.Origin] else [])=m1 at p1
 rw[Hv]
 have eb:(if decide (a.Origin ≥ 0)=true then true else (cond false true (decide ((a.Path.length:Int) > 0))))=decide (a.Origin≠-1\/a.Path≠[]):=by
  have:=v.o
  have e:(a.Path≠[])↔0<a.Path.length:=List.length_pos_iff.symm
  by_cases h:a.Origin ≥ 0
  ·rw[if_pos (by simpa using h),decide_eq_true (.inl (by omega))]
  rw[if_neg (by simpa using h),cond_false]
  have h1:a.Origin=-1:=by omega
  have e2:(a.Origin≠-1\/a.Path≠[])↔0<a.Path.length:=by rw[e];omega
  rw[X28,decide_eq_true_eq,decide_eq_true_eq,e2]
  omega
 rw[eb,AH]
 have step2 :∃m2,Puts m2 a [2,1]/\∀(ρ:Type) (q:List (Int×List UInt8)->Option ρ),(if decide (a.Origin≠-1\/a.Path≠[])=true then q (Cd m1 2 (Jk a.Path)) else q m1)=q m2:=by
  by_cases h:a.Origin≠-1\/a.Path≠[]
  ·exact⟨_,p1.add 2 (by unfold G;rw[if_neg (by decide),if_pos rfl,if_pos h]),fun ρ q=>by rw[if_pos (by simpa using h)]⟩
  exact⟨_,p1.skip 2 (by unfold G;rw[if_neg (by decide),if_pos rfl,if_neg h]),fun ρ q=>by rw[if_neg (by simpa using h)]⟩
 rw[Xt (by omega)]
 obtain⟨m2,p2,e2⟩:=step2
 refine (e2 _ (WR3 a)).trans ?_
 unfold WR3
 have en :∀{ρ:Type} (q:Bool->Option ρ),AI (τ:=Bool) (fun k27=>if (!(Addr.eqd a.Next (⟨false,(0:UInt64),(0:UInt64)⟩:Addr)))=true then k27 (cond true (!a.Next.V6) false) else k27 false) q=q (GO a):=by
  intro ρ q
  rw[AH]
  unfold GO
  cases a.Next.V6<;>cases Addr.eqd a.Next ⟨false,0,0⟩<;>rfl
 refine (en _).trans ?_
 rw[AH]
 have step3 :∃m3,Puts m3 a [3,2,1]/\∀(ρ:Type) (q:List (Int×List UInt8)->Option ρ),(if GO a=true then Option.bind (BG a.Next) fun v30=>q (Cd m2 3 v30) else q m2)=q m3:=by
  by_cases h:GO a=true
  ·have h6:a.Next.V6=false:=by
    unfold GO at h
    cases h6:a.Next.V6
    ·rfl
    rw[h6] at h;simp at h
   exact⟨_,p2.add 3 (by unfold G;rw[if_neg (by decide),if_neg (by decide),if_pos rfl,if_pos h]),fun ρ q=>by rw[if_pos h,Vn v.n h6,AC]⟩
  exact⟨_,p2.skip 3 (by unfold G;rw[if_neg (by decide),if_neg (by decide),if_pos rfl,if_neg h]),fun ρ q=>by rw[if_neg h]⟩
 obtain⟨m3,p3,e3⟩:=step3
 refine (e3 _ (WR4 a)).trans ?_
 unfold WR4
 rw[AH]
 have step4 :∃m4,Puts m4 a [4,3,2,1]/\∀(ρ:Type) (q:List (Int×List UInt8)->Option ρ),(if decide (a.MED ≥ 0)=true then Option.bind (AT a.MED 4) fun v33=>q (Cd m3 4 v33) else q m3)=q m4:=by
  have:=v.m
  by_cases h:a.MED ≥ 0
  ·exact⟨_,p3.add 4 (by unfold G;rw[if_neg (by decide),if_neg (by decide),if_neg (by decide),if_pos rfl,if_pos (by omega)]),fun ρ q=>by rw[if_pos (by simpa using h),Oz,AC]⟩
  exact⟨_,p3.skip 4 (by unfold G;rw[if_neg (by decide),if_neg (by decide),if_neg (by decide),if_pos rfl,if_neg (by omega)]),fun ρ q=>by rw[if_neg (by simpa using h)]⟩
 obtain⟨m4,p4,e4⟩:=step4
 refine (e4 _ (WR5 a)).trans ?_
 unfold WR5
 rw[AH]
 have step5 :∃m5,Puts m5 a [5,4,3,2,1]/\∀(ρ:Type) (q:List (Int×List UInt8)->Option ρ),(if decide (a.Pref ≥ 0)=true then Option.bind (AT a.Pref 4) fun v33=>q (Cd m4 5 v33) else q m4)=q m5:=by
  have:=v.r
  by_cases h:a.Pref ≥ 0
  ·exact⟨_,p4.add 5 (by unfold G;rw[if_neg (by decide),if_neg (by decide),if_neg (by decide),if_neg (by decide),if_pos rfl,if_pos (by omega)]),fun ρ q=>by rw[if_pos (by simpa using h),Oz,AC]⟩
  exact⟨_,p4.skip 5 (by unfold G;rw[if_neg (by decide),if_neg (by decide),if_neg (by decide),if_neg (by decide),if_pos rfl,if_neg (by omega)]),fun ρ q=>by rw[if_neg (by simpa using h)]⟩
 obtain⟨m5,p5,e5⟩:=step5
 refine (e5 _ (WR8 a)).trans ?_
 unfold WR8
 have ck8:chk ((A4 m5 8).isNone=true)=some ():=by
  have hn:A4 m5 8=none:=by rw[p5.h,if_neg (by decide)]
  unfold chk
  rw[hn]
  rfl
 rw[AH,ck8,AC]
 refine aL (w:=JS) (k:=8) (N:=1000000) (l:=a.Communities) (by rw[ML];omega) (fun next x i m b _ hb=>by
  rw[L9] at hb
  dsimp only
  rw[Yl,AC,AP (by decide) (by simp[w2];omega),AC,Yl,AC,AP (by decide) (by simp[w2];omega),AC,List.append_assoc]
  rfl) fun m8 b8 h8=>?_
 have p8:Puts m8 a [8,5,4,3,2,1]:=⟨fun j=>by
  rw[h8 j,p5.h]
  by_cases hj:j=8
  ·subst hj
   have:G a 8=if a.Communities≠[] then some (a.Communities.flatMap JS) else none:=rfl
   simp[this]
  simp[hj]⟩
 dsimp only
 have ck32:chk ((A4 m8 32).isNone=true)=some ():=by
  have hn:A4 m8 32=none:=by rw[p8.h,if_neg (by decide)]
  unfold chk
  rw[hn]
  rfl
 rw[AH,ck32,AC]
 refine aL (w:=HM) (k:=32) (N:=1000000) (l:=a.JAF) (by rw[Ls];omega) (fun next x i m b _ hb=>by
  rw[KF] at hb
  dsimp only
  rw[Oz,AC,AP (by decide) (by simp[w4];omega),AC,Oz,AC,AP (by decide) (by simp[w4];omega),AC,Oz,AC,AP (by decide) (by simp[w4];omega),AC,List.append_assoc,List.append_assoc]
  rfl) fun m9 b9 h9=>?_
 have p9:Puts m9 a [32,8,5,4,3,2,1]:=⟨fun j=>by
  rw[h9 j,p8.h]
  by_cases hj:j=32
  ·subst hj
   have:G a 32=if a.JAF≠[] then some (a.JAF.flatMap HM) else none:=rfl
   simp[this]
  simp[hj]⟩
 dsimp only
 rw[AH]
 have step35 :∃m10,Puts m10 a [35,32,8,5,4,3,2,1]/\∀(ρ:Type) (q:List (Int×List UInt8)->Option ρ),(if decide (a.OTC ≥ 0)=true then Option.bind (AT a.OTC 4) fun v33=>q (Cd m9 35 v33) else q m9)=q m10:=by
  have:=v.t
  have hG:G a 35=if a.OTC≠-1 then some (w4 a.OTC) else none:=rfl
  by_cases h:a.OTC ≥ 0
  ·exact⟨_,p9.add 35 (by rw[hG,if_pos (by omega)]),fun ρ q=>by rw[if_pos (by simpa using h),Oz,AC]⟩
  exact⟨_,p9.skip 35 (by rw[hG,if_neg (by omega)]),fun ρ q=>by rw[if_neg (by simpa using h)]⟩
 obtain⟨m10,p10,e10⟩:=step35
 refine (e10 _ (WRk a)).trans ?_
 unfold WRk
 refine (Y4 (a:=a) (by have:=v.e;omega) (fun x hx=>by have:=(GV v.O hx).2.2.2.2;omega) (fun k b h=>by have:=Yn v h;omega) fun k=>?_).trans rfl
 rw[p10.h]
 split
 ·rfl
 rename_i hk
 simp only[List.mem_cons,List.not_mem_nil,or_false,not_or] at hk
 unfold G
 rw[if_neg hk.2.2.2.2.2.2.2,if_neg hk.2.2.2.2.2.2.1,if_neg hk.2.2.2.2.2.1,if_neg hk.2.2.2.2.1,if_neg hk.2.2.2.1,if_neg hk.2.2.1,if_neg hk.2.1,if_neg hk.1]
theorem Wi {v:List JAA}{k f:Int}{d:List UInt8}{c:Bool}{ρ:Type}{K:List JAA->Option ρ}(hf:fl k=f)(hv:v.length<=1000000) :
  AI (τ:=(List JAA)) (fun k33=>
   AI (τ:=(List JAA)) (fun k34=>
    if c=true then
     Option.bind (some (Option.getD (A4 Ba k) 0)) fun v35=>
     Option.bind (apnd (α:=JAA) 40 v ([(⟨v35,k,d⟩:JAA)]:List JAA)) fun v36=>
     k34 v36
    else
     k34 v
   ) fun v37=>
   k33 v37
  ) K=K (v++if c=true then [⟨fl k,k,d⟩] else []):=by
 rw[AH,AH,K4]
 cases c
 ·rw[if_neg (by decide),if_neg (by decide),List.append_nil]
 rw[if_pos rfl,if_pos rfl,AC,AP (by decide) (by simp;omega),AC]
theorem V8 (a b:JAA):CC a b=some (Ef (Hk a) (Hk b)):=SO a b
def L8:List Int:=[1,2,3,4,5,8,32,35]
def Nb (a:JAC):List JAA:=L8.flatMap (ent a)++a.Other
theorem Vl {a:JAC}{k:Int}{y:JAA}(h:y∈ent a k):k∈L8:=by
 obtain⟨b,hb,_⟩:=IC.1 h
 rcases Hj k with ⟨e,_⟩|⟨e,_⟩|⟨e,_⟩|⟨e,_⟩|⟨e,_⟩|⟨e,_⟩|⟨e,_⟩|⟨e,_⟩|e
 iterate 8 (subst e;decide)
 rw[PP e.2.2.2.2.2.2.2.2] at hb;cases hb
theorem XQ {a:JAC}{y:JAA}:y∈Nb a↔(∃k,y∈ent a k)\/y∈a.Other:=by
 unfold Nb
 rw[X23,List.mem_flatMap]
 exact⟨fun h=>h.imp_left fun ⟨k,_,h⟩=>⟨k,h⟩,fun h=>h.imp_left fun ⟨k,h⟩=>⟨k,Vl h,h⟩⟩
theorem V7 {a:JAC}(hO:DW a.Other=true):(Nb a).Pairwise fun x y=>Hk x≠Hk y:=by
 unfold Nb
 have hk :∀{x y:JAA},x.Type_≠y.Type_->Hk x≠Hk y:=fun h e=>h (by simpa[Hk] using e)
 refine List.pairwise_append.2 ⟨?_,(LC hO).imp fun {x y} h=>hk (by simp only[ltT,decide_eq_true_eq] at h;omega),fun x hx y hy=>hk fun e=>?_⟩
 ·rw[List.pairwise_flatMap]
  refine⟨fun k _=>?_,?_⟩
  ·unfold ent
   split
   ·exact List.pairwise_singleton _ _
   exact .nil
  have:L8.Pairwise (·≠·):=by decide
  exact this.imp fun {k j} h x hx y hy=>hk (by rw[La hx,La hy];exact h)
 obtain⟨k,_,hx⟩:=List.mem_flatMap.1 hx
 obtain⟨b,hb,_⟩:=IC.1 hx
 have:=XP (GV hO hy).1
 rw[<- e,La hx] at this
 rw[PP this] at hb;cases hb
theorem Qp {a:JAC}(hO:DW a.Other=true)(hl:(Nb a).length<=1000000):FO CC (Nb a)=some (wrS a):=by
 obtain⟨r,h1,h2,h3⟩:=VS Hh V8 (l:=Nb a) (by omega)
 rw[h1]
 congr 1
 refine Va Hh (Qv Hh h3 ?_) (MW hO) fun x=>?_
 ·exact (h2.pairwise_iff fun h e=>h e.symm).2 (V7 hO)
 rw[h2.mem_iff,XQ,Ua hO]
theorem Y5 {l:List JAA}(hl:l.length<=1000)(hd :∀x∈l,x.Data.length<=1000000){v:List JAA}(hv:v.length<=1000){ρ:Type}{K:List JAA->Option ρ} :
  AI (τ:=(List JAA)) (fun k67=>
   Ak (σ:=(List JAA)) (fun v68=>
    k67 v68
   ) (fun next69 (x70:JAA) i71 v68=>
    Option.bind (BK x70.Data) fun v72=>
    Option.bind (apnd (α:=JAA) 40 v68 ([{ x70 with Data:=v72 }]:List JAA)) fun v73=>
    next69 v73
   ) l 0 v
  ) K=K (v++l):=by
 rw[AH]
 have e:l.flatMap (fun x=>[x])=l:=by simp
 refine (Pv (g:=fun x:JAA=>[x]) (N:=100000) (by rw[e];omega) fun next x i w hx hw=>?_).trans (by rw[e])
 have:=hd x hx
 simp only[X22] at hw
 unfold BK
 rw[AP (by decide) (by simp;omega),AC,AC,List.nil_append,AP (by decide) (by simp;omega),AC]
theorem Og (a:JAC):(L8.flatMap (ent a)).length<=8:=N5 (Fg a) L8
theorem Kr {b:List UInt8}{x y:Int}(hb:b.length<=1000000):Ok (E0 b x y) fun r=>r.length<=b.length+1:=by
 unfold E0
 refine .bind (Ok.apnd (by decide) (by simp;omega)) fun _ _=>.ite (fun _=>.ret (by simp)) fun h=>?_
 have hpos:0<b.length:=by
  cases b with
  | nil=>simp at h
  | cons z t=>simp
 refine .bind (Aj (by omega)) fun k hk=>.bind (Aj (by omega)) fun q _=>?_
 refine .ite (fun _=>?_) fun _=>.ite (fun _=>?_) fun _=>.ite (fun _=>?_) fun _=>?_
 ·exact .bind (.geti (by omega)) fun _ _=>.bind (.seti (by omega)) fun r hr=>.ret (by omega)
 ·rw[AQ (x:=k+1) (by omega)]
  refine .bind (Ok.chk (by omega)) fun _ _=>.bind (Ok.chk (by omega)) fun _ _=>.bind (Ok.apnd (by decide) (by simp only[X18,X17];omega)) fun r hr=>.ret ?_
  rw[hr]
  simp only[X11,X18,X17]
  omega
 ·refine .bind (Ok.chk (by omega)) fun _ _=>.bind (Ok.apnd (by decide) (by simp only[X13,X18,X17];omega)) fun _ _=>.bind (Ok.apnd (by decide) (by simp only[X18,X17,X22];omega)) fun r hr=>.bind (Ok.chk (by omega)) fun _ _=>.bind (Ok.apnd (by decide) (by rw[hr];simp only[X11,X18,X17,X22];omega)) fun s hs=>.ret ?_
  rw[hs,hr]
  simp only[X11,X18,X17,X22]
  omega
 refine .bind (.part (by omega)) fun r hr=>.ret ?_
 omega
theorem KI {a:JAC}(v:VA a):(wrS a).length<=16:=by
 have h:=MG (Qp v.O (by unfold Nb;rw[X11];have:=Og a;have:=v.e;omega))
 rw[h]
 unfold Nb
 rw[X11]
 have:=Og a
 have:=v.e
 omega
theorem RP {a:JAC}(v:VA a){x:JAA}(h:x∈wrS a):x.Data.length<=768:=by
 rcases (Ua v.O).1 h with ⟨k,h⟩|h
 ·obtain⟨b,hb,rfl⟩:=IC.1 h
  exact Yn v hb
 have:=(GV v.O h).2.2.2.2
 omega
theorem W3 (l:List Int):Is l=some ⟨l,0⟩:=rfl
theorem X9 {h l:UInt64}(hh:h.toNat=0)(hl:l.toNat<72057594037927936):(AN ((BitVec.ofInt 64 ((AN ((h.toNat:Int)*(2^(min (Int.toNat 8) 64)))).toNat:Int) ||| BitVec.ofInt 64 ((AN (Int.fdiv (l.toNat:Int) (2^(min (Int.toNat 56) 64)))).toNat:Int)).toNat:Int))=0:=by
 have e1:Int.fdiv (l.toNat:Int) (2^(min (Int.toNat 56) 64))=((l.toNat/2^(min 56 64):Nat):Int):=fd l.toNat 56
 have e2:l.toNat/2^(min 56 64)=0:=Nat.div_eq_of_lt hl
 rw[e1,e2,hh]
 have e3:(((0:Nat):Int)*(2^(min (Int.toNat 8) 64)))=((0:Nat):Int):=by simp
 rw[e3,A8]
 rfl
def UX (v4:Addr)(x6:UInt8):Addr:=⟨v4.V6,(AN ((BitVec.ofInt 64 ((AN ((v4.Hi.toNat:Int)*(2^(min (Int.toNat 8) 64)))).toNat:Int) ||| BitVec.ofInt 64 ((AN (Int.fdiv (v4.Lo.toNat:Int) (2^(min (Int.toNat 56) 64)))).toNat:Int)).toNat:Int)),(AN ((BitVec.ofInt 64 ((AN ((v4.Lo.toNat:Int)*(2^(min (Int.toNat 8) 64)))).toNat:Int) ||| BitVec.ofInt 64 ((AN (x6.toNat:Int)).toNat:Int)).toNat:Int))⟩
theorem Nw {m:Nat}(hm:m<16777216)(x:UInt8):UX ⟨false,0,UInt64.ofNat m⟩ x=⟨false,0,UInt64.ofNat (m*256+x.toNat)⟩:=by
 have e:(UInt64.ofNat m).toNat=m:=by rw[UInt64.toNat_ofNat'];omega
 unfold UX
 dsimp only
 rw[X9 rfl (by omega),Rm (by omega) x.toNat_lt,e]
def okJ (x:JAA):Bool:=decide (0<=x.Flags)&&(decide (x.Flags<=255)&&(decide (0<=x.Type_)&&(decide (x.Type_<=255)&&decide ((x.Data.length:Int)<=65535))))
def hdB (x:JAA):List UInt8:=if decide ((x.Data.length:Int) > 255)=true then ([(Ah ((BitVec.ofInt 8 ((Ah ((BitVec.ofInt 8 ((Ah x.Flags).toNat:Int) &&& BitVec.ofInt 8 224).toNat:Int)).toNat:Int) ||| BitVec.ofInt 8 16).toNat:Int)),(Ah x.Type_),(Ah (Int.fdiv (x.Data.length:Int) (2^(min (Int.toNat 8) 64)))),(Ah (x.Data.length:Int))]:List UInt8)
 else ([(Ah ((BitVec.ofInt 8 ((Ah x.Flags).toNat:Int) &&& BitVec.ofInt 8 224).toNat:Int)),(Ah x.Type_),(Ah (x.Data.length:Int))]:List UInt8)
def Nc (x:JAA):List UInt8:=hdB x++x.Data
def Ez (l:List JAA):List UInt8:=l.flatMap Nc
def CY (l:List JAA):List UInt8×Int:=if l.all okJ=true then (if (Ez l).length > 2048 then ([],3) else (Ez l,0)) else ([],1)
theorem N1 (x:JAA):(Nc x).length<=x.Data.length+4:=by
 unfold Nc hdB
 rw[X11]
 split<;>simp<;>omega
theorem QY {N:Nat} :∀{l:List JAA},(∀x∈l,x.Data.length<=N)->(Ez l).length<=l.length*(N+4)
 | [],_=>by simp[Ez]
 | x::t,h=>by
  have ih:=QY (l:=t) fun y hy=>h y (X19 _ hy)
  have h1:=N1 x
  have h2:=h x (by simp)
  unfold Ez at ih ⊢
  rw[List.flatMap_cons,X11,X12,X32]
  omega
theorem Wb {x:JAA}{v:List UInt8}{ρ:Type}{K:List UInt8->Option ρ}(hv:v.length+4<=1000000000) :
  AI (τ:=(List UInt8)) (fun k12=>
    if (decide ((x.Data.length:Int) > 255))=true then
     Option.bind (apnd (α:=UInt8) 1 v ([(Ah ((BitVec.ofInt 8 ((Ah ((BitVec.ofInt 8 ((Ah x.Flags).toNat:Int) &&& BitVec.ofInt 8 224).toNat:Int)).toNat:Int) ||| BitVec.ofInt 8 16).toNat:Int)),(Ah x.Type_),(Ah (Int.fdiv (x.Data.length:Int) (2^(min (Int.toNat 8) 64)))),(Ah (x.Data.length:Int))]:List UInt8)) fun v13=>
     k12 v13
    else
     Option.bind (apnd (α:=UInt8) 1 v ([(Ah ((BitVec.ofInt 8 ((Ah x.Flags).toNat:Int) &&& BitVec.ofInt 8 224).toNat:Int)),(Ah x.Type_),(Ah (x.Data.length:Int))]:List UInt8)) fun v14=>
     k12 v14
   ) K=K (v++hdB x):=by
 rw[AH]
 unfold hdB
 split
 ·rw[AP (by decide) (by simp;omega),AC]
 rw[AP (by decide) (by simp;omega),AC]
theorem Wc {l:List JAA}(h1:l.length<=1000)(h2 :∀x∈l,x.Data.length<=100000):G1 l=some (CY l):=by
 have hlen:=QY h2
 have hlen2:l.length*(100000+4)<=1000*100004:=X31 _ h1
 unfold G1 CY
 rw[AH]
 refine (XA (g:=okJ) (r0:=some ([],1)) fun next x i _=>?_).trans ?_
 ·have e:okJ x=!(decide (x.Flags<0) || (decide (x.Flags > 255) || (decide (x.Type_<0) || (decide (x.Type_ > 255) || decide ((x.Data.length:Int) > 65535))))):=by
   unfold okJ
   rw[X28]
   simp only[X27,Bool.not_eq_true',Bool.or_eq_false_iff,decide_eq_true_eq,decide_eq_false_iff_not]
   omega
  rw[AH,e]
  cases decide (x.Flags < 0)<;>cases decide (x.Flags > 255)<;>cases decide (x.Type_ < 0)<;>cases decide (x.Type_ > 255)<;>cases decide ((x.Data.length:Int) > 65535)<;>rfl
 cases ha:l.all okJ
 ·rfl
 rw[cond_true,if_pos rfl,AH]
 refine (Pv (g:=Nc) (N:=999999990) (by show [].length+(Ez l).length<=_;simp only[X13];omega) fun next x i v hx hv=>?_).trans ?_
 ·unfold Nc at hv ⊢
  rw[X11] at hv
  have hh:(hdB x).length<=4/\3<=(hdB x).length:=by unfold hdB;split<;>simp
  rw[Wb (by omega),AP (by decide) (by rw[X11];omega),AC,List.append_assoc]
 show (if decide (((Ez l).length:Int) > 2048)=true then _ else _)=_
 by_cases hc:(Ez l).length > 2048
 ·rw[if_pos (by simp only[decide_eq_true_eq];omega),if_pos hc]
 rw[if_neg (by simp only[decide_eq_true_eq];omega),if_neg hc]
 rfl
theorem Vp {l:List JAA}(h1:l.length<=1000)(h2 :∀x∈l,x.Data.length<=100000):D7 l=some (CY l):=by
 unfold D7 CY
 rw[AH]
 refine (XA (g:=okJ) (r0:=some ([],1)) fun next x i _=>?_).trans ?_
 ·have e:okJ x=((decide (0<=x.Flags)&&decide (x.Flags<=255))&&((decide (0<=x.Type_)&&decide (x.Type_<=255))&&!decide ((x.Data.length:Int) > 65535))):=by
   unfold okJ
   rw[X28]
   simp only[X27,Bool.not_eq_true',decide_eq_true_eq,decide_eq_false_iff_not]
   omega
  rw[AH,e,FX,AC,FX]
  cases decide (0<=x.Flags)<;>cases decide (x.Flags<=255)<;>cases decide (0<=x.Type_)<;>cases decide (x.Type_<=255)<;>cases decide ((x.Data.length:Int) > 65535)<;>rfl
 cases ha:l.all okJ
 ·rfl
 rw[cond_true,if_pos rfl,AH]
 have key :∀(K:List UInt8->Option (List UInt8×Int)) (body:(List UInt8->Option (List UInt8×Int))->JAA->Nat->List UInt8->Option (List UInt8×Int)),(∀next x i v,v.length<=2048->x.Data.length<=100000->body next x i v=if (v++Nc x).length > 2048 then some ([],3) else next (v++Nc x))->
   ∀(t:List JAA) (i:Nat) (v:List UInt8),(∀x∈t,x.Data.length<=100000)->v.length<=2048->Ak K body t i v=if (v++Ez t).length > 2048 then some ([],3) else K (v++Ez t):=by
  intro K body hb t
  induction t with
  | nil=>
   intro i v _ hv
   have e:v++Ez []=v:=by simp[Ez]
   rw[e,if_neg (by omega)]
   rfl
  | cons x t ih=>
   intro i v hx hv
   show body (fun s=>Ak K body t (i+1) s) x i v=_
   have e:v++Ez (x::t)=(v++Nc x)++Ez t:=by
    unfold Ez
    rw[List.flatMap_cons,List.append_assoc]
   rw[hb _ x i v hv (hx x (by simp)),e]
   by_cases hc:(v++Nc x).length > 2048
   ·rw[if_pos hc,if_pos (by rw[X11];omega)]
   rw[if_neg hc,ih (i+1) _ (fun y hy=>hx y (X19 _ hy)) (by omega)]
 refine (key _ _ (fun next x i v hv hd=>?_) l 0 [] h2 (by simp)).trans ?_
 ·have hh:(hdB x).length<=4:=by unfold hdB;split<;>simp
  unfold Nc
  rw[Wb (by omega),AP (by decide) (by rw[X11];omega),AC,List.append_assoc]
  by_cases hc:(v++(hdB x++x.Data)).length > 2048
  ·rw[if_pos (by simp only[decide_eq_true_eq];omega),if_pos hc]
  rw[if_neg (by simp only[decide_eq_true_eq];omega),if_neg hc]
 rw[List.nil_append]
 split<;>rfl
theorem Ks (b:List UInt8):Ej b=some (decide ((b.length:Int)<=600)):=rfl
theorem P7 {l:List JAA}:(CY l).1.length<=2048:=by
 unfold CY
 split
 ·split
  ·simp
  dsimp only;omega
 simp
theorem V3 {d:List UInt8}(h:d.length=4):(addrOf d).ok=true:=by
 match d,h with
 | [a,b,c,e],_=>
  have h1 :∀K:Addr->Option (Addr×Int),Ak (σ:=Addr) (fun v4=>K v4) (fun next5 x6 _ v4=>next5 (UX v4 x6)) [a,b,c,e] 0 ⟨false,0,UInt64.ofNat 0⟩=K ⟨false,0,UInt64.ofNat (val [a,b,c,e])⟩:=by
   intro K
   have ha:=a.toNat_lt
   have hb:=b.toNat_lt
   have hc:=c.toNat_lt
   rw[Yi]
   rw[List.foldl_cons,Nw (by omega),List.foldl_cons,Nw (by omega),List.foldl_cons,Nw (by omega),List.foldl_cons,Nw (by omega),List.foldl_nil]
   rfl
  have main:FG [a,b,c,e]=some (⟨false,0,UInt64.ofNat (val [a,b,c,e])⟩,0):=h1 fun v8=>some (v8,0)
  have hv:=PL [a,b,c,e]
  simp only[X12,X13] at hv
  unfold addrOf
  rw[main]
  show Addr.ok ⟨false,0,UInt64.ofNat (val [a,b,c,e])⟩=true
  have e2:(UInt64.ofNat (val [a,b,c,e])).toNat=val [a,b,c,e]:=by rw[UInt64.toNat_ofNat'];omega
  have e3:decide (((UInt64.ofNat (val [a,b,c,e])).toNat:Int)<4294967296)=true:=decide_eq_true (by rw[e2];omega)
  unfold Addr.ok
  dsimp only
  rw[e3]
  rfl
structure VB (a:JAC):Prop where
 o:-1<=a.Origin/\a.Origin<=2
 p:Fv a.Path=true
 n:a.Next.ok=true
 m:-1<=a.MED/\a.MED<=4294967295
 r:-1<=a.Pref/\a.Pref<=4294967295
 t:a.OTC=-1\/(1<=a.OTC/\a.OTC<=4294967295)
 c:D1 a.Communities=true
 l:D3 a.JAF=true
theorem VB.empty:VB eA:=⟨by decide,rfl,by decide,by decide,by decide,.inl rfl,rfl,rfl⟩
theorem VB.step {a a':JAC}{x:JAA}(v:VB a)(hd:x.Data.length<=1000000)(h:stepS a x=some a'):VB a':=by
 unfold stepS at h
 split at h
 ·obtain rfl:=X25 h
  exact v
 split at h
 rotate_left
 ·cases h
 unfold W5 at h
 split at h
 ·obtain⟨n,hn,rfl⟩:=Option.map_eq_some_iff.1 h
  unfold Sz at hn
  split at hn
  ·rename_i hc
   obtain rfl:=X25 hn
   have:0<=If x.Data:=by rw[Nu (by omega)];omega
   exact⟨⟨by dsimp only;omega,hc.2⟩,v.p,v.n,v.m,v.r,v.t,v.c,v.l⟩
  cases hn
 split at h
 ·obtain⟨n,hn,rfl⟩:=Option.map_eq_some_iff.1 h
  unfold XS at hn
  cases hq:rdL x.Data [] with
  | none=>rw[hq] at hn;cases hn
  | some p=>
   rw[hq,Option.bind_some] at hn
   have hs:=Xp hd hq
   rw[WR (by omega) (by omega)] at hn
   split at hn
   ·obtain rfl:=X25 hn
    exact⟨v.o,‹_›,v.n,v.m,v.r,v.t,v.c,v.l⟩
   cases hn
 split at h
 ·obtain⟨n,hn,rfl⟩:=Option.map_eq_some_iff.1 h
  unfold Wv at hn
  split at hn
  ·obtain rfl:=X25 hn
   exact⟨v.o,v.p,V3 ‹_›,v.m,v.r,v.t,v.c,v.l⟩
  cases hn
 split at h
 ·obtain⟨n,hn,rfl⟩:=Option.map_eq_some_iff.1 h
  unfold rd4 at hn
  split at hn
  ·obtain rfl:=X25 hn
   have:=MK ‹_›
   exact⟨v.o,v.p,v.n,⟨by dsimp only;omega,by dsimp only;omega⟩,v.r,v.t,v.c,v.l⟩
  cases hn
 split at h
 ·obtain⟨n,hn,rfl⟩:=Option.map_eq_some_iff.1 h
  unfold rd4 at hn
  split at hn
  ·obtain rfl:=X25 hn
   have:=MK ‹_›
   exact⟨v.o,v.p,v.n,v.m,⟨by dsimp only;omega,by dsimp only;omega⟩,v.t,v.c,v.l⟩
  cases hn
 split at h
 ·obtain⟨n,hn,rfl⟩:=Option.map_eq_some_iff.1 h
  unfold WY at hn
  split at hn
  ·rename_i hc
   obtain rfl:=X25 hn
   exact⟨v.o,v.p,v.n,v.m,v.r,v.t,Uu (SC _) (by rw[Qo];omega),v.l⟩
  cases hn
 split at h
 ·obtain⟨n,hn,rfl⟩:=Option.map_eq_some_iff.1 h
  unfold VN at hn
  split at hn
  ·rename_i hc
   obtain rfl:=X25 hn
   exact⟨v.o,v.p,v.n,v.m,v.r,v.t,v.c,UV (QR _ (T9 _)) (by rw[OG,PO];omega)⟩
  cases hn
 split at h
 ·obtain⟨n,hn,rfl⟩:=Option.map_eq_some_iff.1 h
  unfold Ym at hn
  split at hn
  ·rename_i hc
   obtain rfl:=X25 hn
   have:=MK hc.1
   have:=hc.2
   exact⟨v.o,v.p,v.n,v.m,v.r,.inr ⟨by dsimp only;omega,by dsimp only;omega⟩,v.c,v.l⟩
  cases hn
 obtain rfl:=X25 h
 exact v
theorem aH {b:Bool}{m:Nat}(h:m<2^128):(mkA b m).n=m:=by
 unfold mkA Addr.n
 simp only[UInt64.toNat_ofNat']
 omega
theorem Xk (a:Addr)(n:Nat):a.n/2^(a.w-n)*2^(a.w-n)<=a.n:=Nat.div_mul_le_self _ _
theorem X7 {a:Addr}(h:a.ok=true):a.n<2^128:=by
 have:=Addr.n_lt h
 have hw:a.w<=128:=by unfold Addr.w;split<;>omega
 exact Nat.lt_of_lt_of_le this (Nat.pow_le_pow_right (by omega) hw)
theorem Yc (m:Nat):(mkA true m).ok=true:=by
 unfold mkA Addr.ok
 simp only[cond_true]
theorem U5 {x y:Bool}(hx:x=true)(hy:y=true):cond false true (cond x y false)=true:=by rw[hx,hy];rfl
theorem Yb {m:Nat}(h:m<4294967296):(mkA false m).ok=true:=by
 have e1:m/2^64=0:=Nat.div_eq_of_lt (by omega)
 have e2:(UInt64.ofNat m).toNat=m:=by simp only[UInt64.toNat_ofNat'];omega
 unfold mkA
 rw[e1]
 exact U5 (x:=(((UInt64.ofNat 0).toNat:Int)==0)) (y:=decide (((UInt64.ofNat m).toNat:Int)<4294967296)) (by simp) (decide_eq_true (by rw[e2];omega))
theorem Y2 {a:Addr}(h:a.ok=true)(n:Nat):(a.cut n).ok=true:=by
 have hc:=Xk a n
 unfold Addr.cut
 cases h6:a.V6
 ·obtain⟨h1,h2⟩:=Addr.ok4 h h6
  have hn:a.n=a.Lo.toNat:=by unfold Addr.n;rw[h1,Nat.zero_mul,Nat.zero_add]
  exact Yb (by omega)
 exact Yc _
theorem X2 {a:Addr}(h:a.ok=true)(n:Nat):(a.cut n).cut n=a.cut n:=by
 have hs:=X7 h
 have hc:=Xk a n
 have e1:(a.cut n).n=a.n/2^(a.w-n)*2^(a.w-n):=by unfold Addr.cut;exact aH (by omega)
 have e2:(a.cut n).w=a.w:=by unfold Addr.w;rw[UI]
 have e3:(a.cut n).V6=a.V6:=UI a n
 show mkA (a.cut n).V6 ((a.cut n).n/2^((a.cut n).w-n)*2^((a.cut n).w-n))=mkA a.V6 (a.n/2^(a.w-n)*2^(a.w-n))
 rw[e1,e2,e3,Nat.mul_div_cancel _ (Nat.two_pow_pos _)]
theorem Xc {a:Addr}(h:a.ok=true){n:Int}(h0:0<=n)(h1:n<=a.w):Bn ⟨a.cut n.toNat,n⟩:=by
 have e2:(a.cut n.toNat).w=a.w:=by unfold Addr.w;rw[UI]
 exact⟨Y2 h _,h0,by simp only;rw[e2];exact h1,X2 h _⟩
def byB (a:Addr):List UInt8:=(BG a).getD []
theorem IF {a:Addr}(h:a.ok=true):BG a=some (byB a)/\(byB a).length=a.L:=by
 obtain⟨r,h1,h2,_⟩:=Gy h
 unfold byB
 rw[h1]
 exact⟨rfl,h2⟩
def KU (p:JAD):List UInt8:=Ah p.Len::(byB p.Addr).take ((p.Len.toNat+7)/8)
def Aq (six:Bool)(l:List JAD):List UInt8:=l.flatMap fun p=>if (p.Addr.V6==six)=true then KU p else []
theorem w_L (a:Addr):a.w=8*a.L/\a.L<=16:=by unfold Addr.w Addr.L;split<;>exact⟨rfl,by omega⟩
theorem Lu {p:JAD}(h:Bn p):(KU p).length<=17:=by
 obtain⟨h1,h2,h3,_⟩:=h
 obtain⟨_,e2⟩:=IF h1
 have:=(w_L p.Addr).2
 unfold KU
 simp only[X12,X18]
 omega
theorem Ew (six:Bool)(p:JAD)(t:List JAD):Aq six (p::t)=(if (p.Addr.V6==six)=true then KU p else [])++Aq six t:=List.flatMap_cons
theorem Bt {six:Bool} :∀{l:List JAD},(∀p∈l,Bn p)->(Aq six l).length<=17*l.length
 | [],_=>by simp[Aq]
 | p::t,h=>by
  have h1:=Lu (h p (by simp))
  have h2:=Bt (six:=six) (l:=t) fun q hq=>h q (X19 _ hq)
  rw[Ew,X11,X12]
  split
  ·omega
  simp only[X13];omega
theorem JU {l:List JAD}(hl:l.length<=100000)(hg :∀p∈l,Bn p)(six:Bool):Dc l six=some (Aq six l):=by
 unfold Dc
 rw[AH]
 refine (Rq (fun (t:List JAD) _ (s:List UInt8)=>s.length+17*t.length<=10000000/\∀p∈t,Bn p) (fun t _ s=>some (s++Aq six t)) ?_ ?_ l 0 [] ⟨by simp only[X13];omega,hg⟩).trans ?_
 ·intro i s _
  show some s=some (s++[])
  rw[List.append_nil]
 ·rintro next p t i s ⟨h1,h2⟩ hn
  simp only[X12] at h1
  have hp:=h2 p (by simp)
  have hcl:=Lu hp
  have ht :∀q∈t,Bn q:=fun q hq=>h2 q (X19 _ hq)
  obtain⟨k1,k2,k3,_⟩:=hp
  obtain⟨e1,e2⟩:=IF k1
  obtain⟨w1,w2⟩:=w_L p.Addr
  rw[AH,Ew]
  by_cases h6:(p.Addr.V6==six)=true
  ·obtain⟨k,hk⟩ :∃k:Nat,p.Len=k:=⟨p.Len.toNat,by omega⟩
   have e3:AS (Int.tdiv (AS (p.Len+7)) 8)=(((p.Len.toNat+7)/8:Nat):Int):=by
    rw[hk,Int.toNat_natCast,AQ (x:=(k:Int)+7) (by omega),Int.tdiv_eq_ediv_of_nonneg (by omega),AQ (by omega)]
    omega
   have e4:(p.Len.toNat+7)/8<=p.Addr.L:=by omega
   have e5:chk (0<=(0:Int)/\(0:Int)<=(((p.Len.toNat+7)/8:Nat):Int)/\(((p.Len.toNat+7)/8:Nat):Int)<=((byB p.Addr).length:Int))=some ():=if_pos (by rw[e2];omega)
   have e6:List.take (Int.toNat (((p.Len.toNat+7)/8:Nat):Int)-Int.toNat 0) (List.drop (Int.toNat 0) (byB p.Addr))=(byB p.Addr).take ((p.Len.toNat+7)/8):=by
    rw[Int.toNat_natCast];rfl
   rw[if_pos h6,if_pos h6,AP (by decide) (by simp only[X22];omega),AC,e1,AC,e3,e5,AC,e6,
    AP (by decide) (by simp only[X11,X22,X18];omega),AC]
   dsimp only
   rw[hn _ ⟨by
    simp only[X11,X22,X18]
    omega,ht⟩]
   unfold KU
   simp only[List.append_assoc,List.singleton_append,List.cons_append,List.nil_append]
  rw[if_neg h6,if_neg h6]
  dsimp only
  rw[hn _ ⟨by omega,ht⟩,List.nil_append]
 rw[List.nil_append]
theorem VW {l:List JAA}(hl:l.length<=1000000)(x:JAA):Ep l x=some (FY ltT l x):=by
 unfold Ep
 have hf:=YD (p:=(ltT · x)) (l:=l) (by omega) (g:=fun y k=>k (cond true (decide (y.Type_<x.Type_)) false)) (fun y _ k=>rfl) (K:=fun v7=>Option.bind (part l 0 v7) fun v8=>
  Option.bind (apnd (α:=JAA) 40 [] v8) fun _=>
  Option.bind (apnd (α:=JAA) 40 v8 ([x]:List JAA)) fun v9=>
  Option.bind (part l v7 (l.length:Int)) fun v10=>
  Option.bind (apnd (α:=JAA) 40 v9 v10) fun v11=>
  some v11)
 refine Eq.trans hf ?_
 exact PK (K:=some) (b:=40) (lt:=ltT) (l:=l) (x:=x) (by decide) (by omega)
def lst0 (u:JAG):List JAA:=if 0<u.Announce.length then wrS u.JAC else []
def Ie (u:JAG):List JAA:=if 0<(Aq true u.Announce).length then FY ltT (lst0 u) ⟨128,14,[0,2,1,16]++byB u.JAC.Next++[0]++Aq true u.Announce⟩ else lst0 u
def Dv (u:JAG):List JAA:=if 0<(Aq true u.Withdraw).length then FY ltT (Ie u) ⟨128,15,[0,2,1]++Aq true u.Withdraw⟩ else Ie u
def two (n:Nat):List UInt8:=[Ah (Int.fdiv (n:Int) (2^(min (Int.toNat 8) 64))),Ah (n:Int)]
def HD (u:JAG)(a:List UInt8):List UInt8:=two (Aq false u.Withdraw).length++Aq false u.Withdraw++two a.length++a++Aq false u.Announce
def CH (u:JAG):List UInt8×Int:=if (CY (Dv u)).2≠0 then ([],(CY (Dv u)).2) else (HD u (CY (Dv u)).1,0)
structure GoodU (u:JAG):Prop where
 w:u.Withdraw.length<=1000
 n:u.Announce.length<=1000
 gw :∀p∈u.Withdraw,Bn p
 ga :∀p∈u.Announce,Bn p
 a:0<u.Announce.length->VA u.JAC/\(wrS u.JAC).length<=16/\∀x∈wrS u.JAC,x.Data.length<=768
theorem Lm {u:JAG}(g:GoodU u):EE u=some (CH u):=by
 have cw6:=Bt (six:=true) g.gw
 have cw4:=Bt (six:=false) g.gw
 have ca6:=Bt (six:=true) g.ga
 have ca4:=Bt (six:=false) g.ga
 have hw:=g.w;have hn:=g.n
 have h0:(lst0 u).length<=16/\∀x∈lst0 u,x.Data.length<=768:=by
  unfold lst0
  split
  ·exact (g.a ‹_›).2
  simp
 unfold EE
 have e0 :∀(K:List JAA->Option (List UInt8×Int)),AI (τ:=(List JAA)) (fun k1=>
  if (decide ((u.Announce.length:Int) > 0)) then
   Option.bind (Et u.JAC) fun (v2,v3)=>
   if (v3 != 0) then
    some ([],v3)
   else
    k1 v2
  else
   k1 []) K=K (lst0 u):=by
  intro K
  rw[AH]
  unfold lst0
  by_cases h:0<u.Announce.length
  ·rw[if_pos (by simp only[decide_eq_true_eq];omega),if_pos h,WI (g.a h).1,AC]
   exact if_neg (by simp)
  rw[if_neg (by simp only[decide_eq_true_eq];omega),if_neg h]
 rw[e0]
 rw[JU (by omega) g.ga,AC]
 have hL:(byB u.JAC.Next).length<=16\/u.Announce.length=0:=by
  rcases Nat.eq_zero_or_pos u.Announce.length with h | h
  ·exact .inr h
  have:=(IF (g.a h).1.n).2
  have:=(w_L u.JAC.Next).2
  exact .inl (by omega)
 have e1 :∀{ρ:Type} (K:List JAA->Option ρ),AI (τ:=(List JAA)) (fun k6=>
  if (decide (((Aq true u.Announce).length:Int) > 0)) then
   Option.bind (BG u.JAC.Next) fun v7=>
   Option.bind (apnd (α:=UInt8) 1 ([(0:UInt8),(2:UInt8),(1:UInt8),(16:UInt8)]:List UInt8) v7) fun v8=>
   Option.bind (apnd (α:=UInt8) 1 v8 ([(0:UInt8)]:List UInt8)) fun v9=>
   Option.bind (apnd (α:=UInt8) 1 v9 (Aq true u.Announce)) fun v10=>
   Option.bind (Ep (lst0 u) (⟨128,14,v10⟩:JAA)) fun v11=>
   k6 v11
  else
   k6 (lst0 u)) K=K (Ie u):=by
  intro ρ K
  rw[AH]
  unfold Ie
  by_cases h:0<(Aq true u.Announce).length
  ·have hpos:0<u.Announce.length:=by omega
   have hl:(byB u.JAC.Next).length<=16:=hL.resolve_right (by omega)
   rw[if_pos (by simp only[decide_eq_true_eq];omega),if_pos h,(IF (g.a hpos).1.n).1,AC,AP (by decide) (by simp only[X12,X13];omega),AC,
    AP (by decide) (by simp only[X11,X12,X13];omega),AC,AP (by decide) (by simp only[X11,X12,X13];omega),AC,VW (by omega),AC]
  rw[if_neg (by simp only[decide_eq_true_eq];omega),if_neg h]
 rw[e1,JU (by omega) g.gw,AC]
 have h1:(Ie u).length<=17/\∀x∈Ie u,x.Data.length<=20000:=by
  unfold Ie
  split
  ·refine⟨by rw[Fo];omega,fun x hx=>?_⟩
   rcases Ea.1 hx with hx | rfl
   ·have:=h0.2 x hx;omega
   have hl:(byB u.JAC.Next).length<=16:=hL.resolve_right (by omega)
   simp only[X11,X12,X13]
   omega
  exact⟨by omega,fun x hx=>by have:=h0.2 x hx;omega⟩
 have e2 :∀{ρ:Type} (K:List JAA->Option ρ),AI (τ:=(List JAA)) (fun k14=>
  if (decide (((Aq true u.Withdraw).length:Int) > 0)) then
   Option.bind (apnd (α:=UInt8) 1 ([(0:UInt8),(2:UInt8),(1:UInt8)]:List UInt8) (Aq true u.Withdraw)) fun v15=>
   Option.bind (Ep (Ie u) (⟨128,15,v15⟩:JAA)) fun v16=>
   k14 v16
  else
   k14 (Ie u)) K=K (Dv u):=by
  intro ρ K
  rw[AH]
  unfold Dv
  by_cases h:0<(Aq true u.Withdraw).length
  ·rw[if_pos (by simp only[decide_eq_true_eq];omega),if_pos h,AP (by decide) (by simp only[X12,X13];omega),AC,VW (by omega),AC]
  rw[if_neg (by simp only[decide_eq_true_eq];omega),if_neg h]
 rw[e2]
 have h2:(Dv u).length<=18/\∀x∈Dv u,x.Data.length<=20000:=by
  unfold Dv
  split
  ·refine⟨by rw[Fo];omega,fun x hx=>?_⟩
   rcases Ea.1 hx with hx | rfl
   ·exact h1.2 x hx
   simp only[X11,X12,X13]
   omega
  exact⟨by omega,h1.2⟩
 rw[Wc (by omega) (fun x hx=>by have:=h2.2 x hx;omega),AC]
 have hj:=P7 (l:=Dv u)
 unfold CH
 dsimp only
 by_cases he:(CY (Dv u)).2=0
 ·have hne:¬ (CY (Dv u)).2≠0:=fun q=>q he
  rw[if_neg (by rw[he];decide),if_neg hne,JU (by omega) g.gw,AC,AP (by decide) (by simp only[X12,X13];omega),AC,
   AP (by decide) (by simp only[X11,X12,X13];omega),AC,AP (by decide) (by simp only[X11,X12,X13];omega),AC,
   JU (by omega) g.ga,AC,AP (by decide) (by simp only[X11,X12,X13];omega),AC]
  rfl
 rw[if_pos (by simpa using he),if_pos he]
theorem ZN {a:Addr}(h:a.ok=true){j:Nat}(hj:j<a.L):(byB a)[j]?=some (Kv a (a.L-1-j)):=by
 obtain⟨r,h1,h2,h3⟩:=Gy h
 unfold byB
 rw[h1]
 exact h3 j hj
theorem Z0 (n:Nat):Int.fdiv (n:Int) (2^(min (Int.toNat 8) 64))=((n/256:Nat):Int):=by
 have:min (Int.toNat 8) 64=8:=rfl
 have e5:((2:Int)^8)=((2^8:Nat):Int):=by simp
 rw[this,e5,Int.fdiv_eq_ediv_of_nonneg _ (Int.natCast_nonneg _),Int.natCast_ediv]
def sk (x:JAA):Bool:=x.Type_ != 14&&x.Type_ != 15
theorem aP {x:JAA}(h:sk x=false):x.Type_=14\/x.Type_=15:=by
 unfold sk at h
 simp only[Bool.and_eq_false_iff,bne_eq_false_iff_eq] at h
 exact h
theorem ZP {x:JAA}(h:sk x=false):unk x.Type_=false/\fl x.Type_=0:=by
 rcases aP h with e | e<;>rw[e]<;>decide
theorem Pi {p:JAA->Bool}{l:List JAA}{x:JAA}(h:p x=false):(FY ltT l x).filter p=l.filter p:=by
 unfold FY
 rw[List.filter_append,List.filter_cons,if_neg (by rw[h];decide),<- List.filter_append,List.takeWhile_append_dropWhile]
def x14 (u:JAG):JAA:=⟨128,14,[0,2,1,16]++byB u.JAC.Next++[0]++Aq true u.Announce⟩
def x15 (u:JAG):JAA:=⟨128,15,[0,2,1]++Aq true u.Withdraw⟩
theorem Qy (u:JAG):Ie u=if 0<(Aq true u.Announce).length then FY ltT (lst0 u) (x14 u) else lst0 u:=rfl
theorem RF (u:JAG):Dv u=if 0<(Aq true u.Withdraw).length then FY ltT (Ie u) (x15 u) else Ie u:=rfl
theorem P5 {six:Bool} :∀{l:List JAD},Aq six l=[]↔l.filter (fun p=>p.Addr.V6==six)=[]
 | []=>by simp[Aq]
 | p::t=>by
  rw[Ew,List.filter_cons]
  by_cases h6:(p.Addr.V6==six)=true
  ·rw[if_pos h6,if_pos h6]
   unfold KU
   simp
  rw[if_neg h6,if_neg h6,List.nil_append]
  exact P5
theorem V5 {six:Bool}{l:List JAD}:0<(Aq six l).length↔l.filter (fun p=>p.Addr.V6==six)≠[]:=by
 rw[List.length_pos_iff,ne_eq,P5]
structure WrU (u:JAG):Prop where
 g:GoodU u
 w:u.Withdraw.length<=256
 n:u.Announce.length<=256
 s :∀p∈u.Announce,p.Addr.V6=u.JAC.Next.V6
 o:u.Announce≠[]->u.JAC.Origin≠-1/\u.JAC.Next≠zAd
theorem TS {a:JAC}(v:VA a){x:JAA}(h:x∈wrS a):sk x=true/\(x.Flags=64\/x.Flags=128\/x.Flags=192\/x.Flags=224)/\0<=x.Type_/\x.Type_<=255:=by
 rcases (Ua v.O).1 h with ⟨k,h⟩|h
 ·obtain⟨b,hb,rfl⟩:=IC.1 h
  rcases Hj k with ⟨e,f⟩|⟨e,f⟩|⟨e,f⟩|⟨e,f⟩|⟨e,f⟩|⟨e,f⟩|⟨e,f⟩|⟨e,f⟩|⟨_,_,_,_,_,_,_,_,f⟩
  iterate 8
   ·subst e
    unfold sk
    dsimp only
    rw[f]
    decide
  rw[PP f] at hb
  cases hb
 obtain⟨h1,h2,h3,h4,_⟩:=GV v.O h
 refine⟨?_,.inr (.inr (.inr h4)),by omega,by omega⟩
 cases hs:sk x with
 | true=>rfl
 | false=>rw[(ZP hs).1] at h1;cases h1
theorem YG {l:List JAA}(h :∀x∈l,sk x=true):Rb l 14=[]/\Rb l 15=[]/\l.filter sk=l:=by
 refine⟨?_,?_,List.filter_eq_self.2 h⟩
 ·unfold Rb
  rw[List.filter_eq_nil_iff]
  intro x hx q
  have:=h x hx
  unfold sk at this
  simp only[X27,bne_iff_ne] at this
  exact this.1 (by simpa using q)
 unfold Rb
 rw[List.filter_eq_nil_iff]
 intro x hx q
 have:=h x hx
 unfold sk at this
 simp only[X27,bne_iff_ne] at this
 exact this.2 (by simpa using q)
def GM (p:JAD):Bool:=(DF p).getD false
theorem G2 (p:JAD):DF p=some (GM p)/\(GM p=true↔Bn p):=by
 obtain⟨b,h1,h2⟩:=OE p
 unfold GM
 rw[h1]
 exact⟨rfl,h2⟩
def isE (a:JAC):Bool:=(Cb a eA).getD false
theorem Um (a:JAC):Cb a eA=some (isE a):=by
 obtain⟨b,h⟩:=(inferInstance:Tt (Cb a eA)).h
 unfold isE
 rw[h];rfl
def OJ (a:JAC)(p:JAD):Bool:=(p.Addr.V6==a.Next.V6)&&((a.Origin != -1)&&(!(Addr.eqd a.Next zAd)&&Fb a))
def TL (u:JAG):Bool:=((CH u).2==0)&&decide ((CH u).1.length<=4077)
def DY (u:JAG):Bool:=decide (u.Withdraw.length<=256)&&(decide (u.Announce.length<=256)&&((u.Withdraw++u.Announce).all GM&&((!(decide (u.Announce=[])) || isE u.JAC)&&(u.Announce.all (OJ u.JAC)&&TL u))))
theorem Ij {u:JAG}(hs:SmT u.JAC)(hw:u.Withdraw.length<=1000)(hn:u.Announce.length<=1000)(hW :∀{a:JAC},VA a->(wrS a).length<=16):EB u=some (DY u):=by
 unfold EB DY
 rw[AH]
 by_cases h1:u.Withdraw.length<=256
 case neg=>
  rw[if_pos (by simp only[decide_eq_true_eq];omega),decide_eq_false h1]
  rfl
 rw[if_neg (by simp only[decide_eq_true_eq];omega),decide_eq_true h1]
 dsimp only
 by_cases h2:u.Announce.length<=256
 case neg=>
  rw[decide_eq_false h2,if_pos (by simp only[cond_false,decide_eq_true_eq];omega)]
  rfl
 rw[decide_eq_true h2,if_neg (by simp only[cond_false,decide_eq_true_eq];omega),AP (by decide) (by simp only[X13];omega),AC,AP (by decide) (by omega),AC,AH]
 refine (XA (g:=GM) (r0:=some false) fun next p i _=>by
  rw[(G2 p).1,AC]
  cases GM p<;>rfl).trans ?_
 cases hg:(u.Withdraw++u.Announce).all GM with
 | false=>rfl
 | true=>
  have hgood :∀p∈u.Withdraw++u.Announce,Bn p:=fun p hp=>(G2 p).2.1 (List.all_eq_true.1 hg p hp)
  simp only[cond_true,Bool.true_and]
  rw[AH]
  have hE:Db=some eA:=rfl
  by_cases h0:u.Announce=[]
  ·rw[if_pos ((aC _).2 h0),hE,AC,Um,AC,decide_eq_true h0]
   cases he:isE u.JAC with
   | false=>rfl
   | true=>
    simp only[Bool.not_true,cond_true,Bool.false_or,Bool.true_and]
    rw[if_neg (by decide),AH,h0]
    show Option.bind (EE u) _=_
    have g:GoodU u:=⟨by omega,by omega,fun p hp=>hgood p (List.mem_append_left _ hp),(fun p hp=>by rw[h0] at hp;cases hp),fun q=>by rw[h0] at q;cases q⟩
    rw[Lm g,AC]
    unfold TL
    rw[AH]
    have e:decide (((CH u).1.length:Int)<=4077)=decide ((CH u).1.length<=4077):=by rw[decide_eq_decide];omega
    rw[e]
    cases ((CH u).2==0)<;>cases decide ((CH u).1.length<=4077)<;>rfl
  rw[if_neg (fun q=>h0 ((aC _).1 q)),decide_eq_false h0]
  simp only[Bool.not_false,Bool.true_or,Bool.true_and]
  rw[if_neg (by decide),AH]
  refine (XA (g:=OJ u.JAC) (r0:=some false) fun next p i _=>by
   rw[AH,QO hs,AC]
   unfold OJ
   have ez:Addr.eqd u.JAC.Next (⟨false,(0:UInt64),(0:UInt64)⟩:Addr)=Addr.eqd u.JAC.Next zAd:=rfl
   have eo:(u.JAC.Origin==(-1))=!(u.JAC.Origin != -1):=(Bool.not_not _).symm
   rw[ez,eo]
   cases (p.Addr.V6==u.JAC.Next.V6)<;>cases (u.JAC.Origin != -1)<;>cases Addr.eqd u.JAC.Next zAd<;>cases Fb u.JAC<;>rfl).trans ?_
  cases hf:u.Announce.all (OJ u.JAC) with
  | false=>rfl
  | true=>
   simp only[cond_true,Bool.true_and]
   have hv:VA u.JAC:=by
    obtain⟨p,hp⟩:=List.exists_mem_of_ne_nil _ h0
    have:=List.all_eq_true.1 hf p hp
    unfold OJ at this
    simp only[X27] at this
    exact L6.1 this.2.2.2
   have g:GoodU u:=⟨by omega,by omega,fun p hp=>hgood p (List.mem_append_left _ hp),fun p hp=>hgood p (List.mem_append_right _ hp),fun _=>⟨hv,hW hv,fun x hx=>RP hv hx⟩⟩
   rw[Lm g,AC]
   unfold TL
   rw[AH]
   have e:decide (((CH u).1.length:Int)<=4077)=decide ((CH u).1.length<=4077):=by rw[decide_eq_decide];omega
   rw[e]
   cases ((CH u).2==0)<;>cases decide ((CH u).1.length<=4077)<;>rfl
theorem Qg {u:JAG}(h:DY u=true)(hW :∀{a:JAC},VA a->(wrS a).length<=16):WrU u/\TL u=true/\(u.Announce=[]->isE u.JAC=true):=by
 unfold DY at h
 simp only[X27,decide_eq_true_eq] at h
 obtain⟨h1,h2,h3,h4,h5,h6⟩:=h
 have hgood :∀p∈u.Withdraw++u.Announce,Bn p:=fun p hp=>(G2 p).2.1 (List.all_eq_true.1 h3 p hp)
 have hfit :∀p∈u.Announce,p.Addr.V6=u.JAC.Next.V6/\u.JAC.Origin≠-1/\u.JAC.Next≠zAd/\VA u.JAC:=fun p hp=>by
  have:=List.all_eq_true.1 h5 p hp
  unfold OJ at this
  simp only[X27,beq_iff_eq,bne_iff_ne,Bool.not_eq_true'] at this
  obtain⟨a1,a2,a3,a4⟩:=this
  exact⟨a1,a2,(fun q=>by rw[q,(Addr.eqd_iff _ _).2 rfl] at a3;cases a3),L6.1 a4⟩
 refine⟨⟨⟨by omega,by omega,fun p hp=>hgood p (List.mem_append_left _ hp),fun p hp=>hgood p (List.mem_append_right _ hp),fun q=>?_⟩,h1,h2,fun p hp=>(hfit p hp).1,fun q=>?_⟩,h6,fun q=>?_⟩
 ·obtain⟨p,hp⟩:=List.exists_mem_of_ne_nil _ (List.length_pos_iff.1 q)
  have v:=(hfit p hp).2.2.2
  exact⟨v,hW v,fun x hx=>RP v hx⟩
 ·obtain⟨p,hp⟩:=List.exists_mem_of_ne_nil _ q
  exact⟨(hfit p hp).2.1,(hfit p hp).2.2.1⟩
 rw[decide_eq_true q] at h4
 simpa using h4
def encS (u:JAG):List UInt8×Int:=if DY u=true then CH u else ([],1)
theorem LJ {u:JAG}(hs:SmT u.JAC)(hw:u.Withdraw.length<=1000)(hn:u.Announce.length<=1000)(hW :∀{a:JAC},VA a->(wrS a).length<=16):ER u=some (encS u):=by
 unfold ER encS
 rw[Ij hs hw hn hW,AC]
 cases hv:DY u with
 | false=>rfl
 | true=>
  rw[if_neg (by decide),if_pos rfl,Lm (Qg hv hW).1.g,AC]
def x1 (o:UInt8):JAA:=⟨64,1,[o]⟩
theorem OC {l:List JAA}{x:JAA}(h:l.Pairwise fun a b=>ltT a b=true)(hx:Rb l x.Type_=[]):(FY ltT l x).Pairwise fun a b=>ltT a b=true:=by
 have hne :∀y∈l,y.Type_≠x.Type_:=by
  unfold Rb at hx
  rw[List.filter_eq_nil_iff] at hx
  exact fun y hy e=>hx y hy (by rw[beq_iff_eq];exact e)
 have h0:=h
 rw[<- List.takeWhile_append_dropWhile (p:=(ltT · x)) (l:=l),List.pairwise_append] at h
 obtain⟨h1,h2,h3⟩:=h
 have hd :∀b∈l.dropWhile (ltT · x),ltT x b=true:=by
  cases hl:l.dropWhile (ltT · x) with
  | nil=>intro b hb;simp at hb
  | cons y t=>
   have hy:ltT y x=false:=by
    have:=List.head?_dropWhile_not (ltT · x) l
    rw[hl] at this
    simpa using this
   have hyl:y∈l:=by
    have:y∈l.dropWhile (ltT · x):=by rw[hl];simp
    exact List.dropWhile_subset _ this
   have hxy:ltT x y=true:=by
    have:=hne y hyl
    unfold ltT at hy ⊢
    rw[decide_eq_false_iff_not] at hy
    exact decide_eq_true (by omega)
   rw[hl] at h2
   intro b hb
   rcases List.mem_cons.1 hb with rfl | hb
   ·exact hxy
   exact Ur _ _ _ hxy ((List.pairwise_cons.1 h2).1 b hb)
 unfold FY
 rw[List.pairwise_append]
 refine⟨h1,List.pairwise_cons.2 ⟨hd,h2⟩,fun a ha b hb=>?_⟩
 rcases List.mem_cons.1 hb with e | hb
 ·rw[e];exact HK (ltT · x) ha
 exact h3 a ha b hb
def raw (u:JAG):List JAA:=lst0 u++((if 0<(Aq true u.Announce).length then [x14 u] else [])++if 0<(Aq true u.Withdraw).length then [x15 u] else [])
theorem Si {u:JAG}(h:WrU u):(Dv u).Pairwise (fun a b=>ltT a b=true)/\∀x,x∈Dv u↔x∈raw u:=by
 have h0:(lst0 u).Pairwise (fun a b=>ltT a b=true)/\Rb (lst0 u) 14=[]/\Rb (lst0 u) 15=[]:=by
  unfold lst0
  by_cases ha:0<u.Announce.length
  ·rw[if_pos ha]
   obtain⟨v,_,_⟩:=h.g.a ha
   obtain⟨a14,a15,_⟩:=YG fun x hx=>(TS v hx).1
   exact⟨(MW v.O).imp fun {p q} h=>by rw[VU] at h;exact h,a14,a15⟩
  rw[if_neg ha]
  exact⟨.nil,rfl,rfl⟩
 obtain⟨s0,a14,a15⟩:=h0
 have h1:(Ie u).Pairwise (fun a b=>ltT a b=true)/\Rb (Ie u) 15=[]/\∀x,x∈Ie u↔x∈lst0 u\/x∈(if 0<(Aq true u.Announce).length then [x14 u] else []):=by
  rw[Qy]
  by_cases hc:0<(Aq true u.Announce).length
  ·rw[if_pos hc,if_pos hc]
   exact⟨OC s0 a14,(Pi (x:=x14 u) rfl).trans a15,fun x=>by rw[Ea,X14]⟩
  rw[if_neg hc,if_neg hc]
  exact⟨s0,a15,fun x=>by simp⟩
 obtain⟨s1,b15,m1⟩:=h1
 rw[RF]
 unfold raw
 by_cases hc:0<(Aq true u.Withdraw).length
 ·rw[if_pos hc,if_pos hc]
  refine⟨OC s1 b15,fun x=>?_⟩
  rw[Ea,m1,X23,X23,X14,or_assoc]
 rw[if_neg hc,if_neg hc]
 refine⟨s1,fun x=>?_⟩
 rw[m1,List.append_nil,X23]
theorem Xx {u:JAG}(h:WrU u){cmp:JAA->JAA->Option Int}(hc :∀a b,cmp a b=some (Ef (Hk a) (Hk b)))(hl:(raw u).length<=1000000)(hd:WP (raw u)):FO cmp (raw u)=some (Dv u):=by
 obtain⟨s,m⟩:=Si h
 obtain⟨r,h1,h2,h3⟩:=VS Hh hc (l:=raw u) (by omega)
 rw[h1]
 congr 1
 refine Va Hh (Qv Hh h3 ?_) (s.imp fun {a b} q=>by rw[VU];exact q) fun x=>?_
 ·exact ((h2.pairwise_iff fun h e=>h e.symm).2 hd).imp fun {a b} q e=>q (by simpa[Hk] using e)
 rw[h2.mem_iff,m]
theorem WX {u:JAG}(h:WrU u):WP (raw u):=by
 have h0:WP (lst0 u)/\∀x∈lst0 u,sk x=true:=by
  unfold lst0
  by_cases ha:0<u.Announce.length
  ·rw[if_pos ha]
   obtain⟨v,_,_⟩:=h.g.a ha
   exact⟨YE v.O,fun x hx=>(TS v hx).1⟩
  rw[if_neg ha]
  exact⟨.nil,fun x hx=>by cases hx⟩
 obtain⟨d0,k0⟩:=h0
 have hk :∀x∈lst0 u,x.Type_≠14/\x.Type_≠15:=fun x hx=>by
  have:=k0 x hx
  unfold sk at this
  simpa using this
 unfold raw WP
 rw[List.pairwise_append]
 refine⟨d0,?_,fun a ha b hb=>?_⟩
 ·split<;>split<;>simp[x14,x15]
 have k:=hk a ha
 rcases X23.1 hb with hb | hb
 ·split at hb
  ·rw[X14] at hb
   subst hb
   exact k.1
  cases hb
 split at hb
 ·rw[X14] at hb
  subst hb
  exact k.2
 cases hb
end Go.AX.Q19
end
