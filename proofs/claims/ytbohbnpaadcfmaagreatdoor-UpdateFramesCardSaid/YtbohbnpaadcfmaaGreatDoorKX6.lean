/-
  Texts of one proof, packed: M18L M18M M18N M18O M18Oa M18P M18Q M18R M18S M18T M18U M18Vb M18X L19A L19B L19C L19D L19E L19F L19G L19H L19I L19J L19K L19L L19M L19N L19O L19P L19Q L19R L19S L19TM L19T L19Z Q19P1 Q19P2 Q19P3 Q19P4 Q19P5 Q19P6 AxB5 AxB6.
-/
import Derived.Test.YtbohbnpaadcfmaaGreatDoorKX2
import Derived.Test.YtbohbnpaadcfmaaGreatDoorKX4
import Derived.Test.YtbohbnpaadcfmaaGreatDoorKX5
import Derived.KernelRfl
import Derived.Shelf.SlSortCmp.NoneTotal
import Derived.Shelf.SortM.Plain
import Derived.Shelf.SortM.SortNone
set_option linter.all false
set_option maxRecDepth 100000
set_option maxHeartbeats 4000000
open List renaming length_map→X10,length_append→X11,length_cons→X12,length_nil→X13,mem_singleton→X14,getElem?_eq_getElem→X15,getElem?_eq_some_iff→X16,length_drop→X17,length_take→X18,mem_cons_of_mem→X19,length_replicate→X20,length_set→X21,length_singleton→X22,mem_append→X23
open Option.some renaming injEq→X24,inj→X25
open Prod.mk renaming injEq→X26
open Bool renaming and_eq_true→X27,eq_iff_iff→X28
open Nat renaming le_of_ble_eq_true→X29,eq_of_beq_eq_true→X30,mul_le_mul_right→X31,add_mul→X32
section
namespace Go.AX.Q19
open Go Go.AX
theorem Ag {v n:Int}(hn:1<=n/\n<=4611686018427387904):Ok (BF v n) fun r=>0<=r/\r<n:=by
 unfold BF
 have h1:=Int.tmod_lt_of_pos v (show 0<n by omega)
 have h2:-n<Int.tmod v n:=by
  have:=Int.lt_tmod_of_pos v (show 0<n by omega)
  exact this
 refine .bind (.chk (by omega)) fun _ _=>.join (fun r=>0<=r/\r<n) (fun k hk=>.ite (fun hc=>hk _ ?_) fun hc=>hk _ ?_) fun r hr=>.ret hr
 ·simp only[decide_eq_true_eq] at hc
  rw[AZ (by omega)]
  omega
 simp only[decide_eq_true_eq] at hc
 omega
def okO (x:YX):Bool:=decide (1<=x.Type_/\x.Type_<=255)&&(unk x.Type_&&(decide (x.Flags=224)&&decide (x.Data.length<=255)))
def ltT (a b:YX):Bool:=decide (a.Type_<b.Type_)
def DZ (l:List YX):Bool:=l.all okO&&chainB ltT l
def HD (a:YY):Bool:=DZ a.Other&&(decide (-1<=a.Origin/\a.Origin<=2)&&(HN a.Path&&(a.Next.ok&&(decide (-1<=a.MED/\a.MED<=4294967295)&&(decide (-1<=a.Pref/\a.Pref<=4294967295)&&((decide (a.OTC=-1) || Jm a.OTC)&&(GQ a.Communities&&(Gm a.Ye&&decide (a.Other.length<=8)))))))))
theorem Tu (a b c:YX)(h1:ltT a b=true)(h2:ltT b c=true):ltT a c=true:=by simp only[ltT,decide_eq_true_eq] at *;omega
structure SmT (a:YY):Prop where
 p:a.Path.length<=1000000
 t:tot a.Path<=1000000
 c:a.Communities.length<=1000000
 l:a.Ye.length<=1000000
 o:a.Other.length<=1000000
 d :∀u∈a.Other,u.Data.length<=1000000
theorem Pz {α ρ:Type}{K:Unit->Option ρ}{l:List α}{body:(Unit->Option ρ)->α->Nat->Unit->Option ρ}(h :∀next x (i:Nat),geti l (i:Int)=some x->body next x i ()=next ()):Ah K body l 0 ()=K ():=by
 have key :∀(t p:List α),l=p++t->Ah K body t p.length ()=K ():=by
  intro t
  induction t with
  | nil=>intro p _;rfl
  | cons x t ih=>
   intro p e
   show body (fun s=>Ah K body t (p.length+1) s) x p.length ()=_
   rw[h _ x p.length (by rw[e];exact OR p x t)]
   have:=ih (p++[x]) (by rw[e];simp)
   simpa using this
 exact key l [] rfl
theorem MY (l:List YX):Bm l l=some true:=by
 unfold Bm
 rw[if_neg (by simp),AG]
 refine Pz fun next x i hg=>?_
 rw[AG]
 simp only[hg,AA,bne_self_eq_false,cond_false,beq_self_eq_true,Bool.not_true]
 rfl
theorem Qq (l:List YZ):Da l l=some true:=by
 unfold Da
 rw[if_neg (by simp),AG]
 refine Pz fun next x i hg=>?_
 rw[hg,AA,(Xs x x).2 rfl]
 rfl
theorem RB (l:List Ye):Ba l l=some true:=by
 unfold Ba
 rw[if_neg (by simp),AG]
 refine Pz fun next x i hg=>?_
 rw[hg,AA,(Xd x x).2 rfl]
 rfl
theorem Qm (l:List Yd):DY l l=some true:=by
 unfold DY
 rw[if_neg (by simp),AG]
 refine Pz fun next x i hg=>?_
 rw[AG,AG,hg,AA,beq_self_eq_true,if_neg (by decide),AA]
 show (if (cond false true ((x.ASNs.length:Int) != (x.ASNs.length:Int)))=true then _ else _)=_
 rw[bne_self_eq_false,if_neg (by decide),AG]
 refine Pz fun next x2 i2 hg2=>?_
 rw[AA,hg2,AA,bne_self_eq_false]
 rfl
theorem YO (a b:Addr):Addr.eqd a b=true↔a=b:=by
 unfold Addr.eqd
 simp only[X27,beq_iff_eq,Bool.and_true,Int.natCast_inj,UInt64.toNat_inj]
 constructor
 ·rintro⟨h1,h2,h3⟩;cases a;cases b;simp_all
 rintro rfl;exact⟨rfl,rfl,rfl⟩
theorem Si (a:YY):C9 a a=some true:=by
 unfold C9
 rw[AG,if_pos (by simp),Qm,AA,(YO _ _).2 rfl,Qq,AA,RB,AA,MY,AA,beq_self_eq_true,beq_self_eq_true,beq_self_eq_true]
 rfl
theorem R9 (a b:YX):ltK F4 a b=ltT a b:=by
 unfold ltK F4 ltT
 rw[Tm,VO,X28,decide_eq_true_eq,decide_eq_true_eq]
 split
 ·simp[*]
 split<;>omega
theorem TE {l:List YX}(hl:l.length<=1000000):Bi l=some (DZ l&&decide (l.length<=8)):=by
 unfold Bi
 rw[AG]
 have hok :∀x:YX,okO x=(unk x.Type_&&((decide (1<=x.Type_)&&decide (x.Type_<=255))&&(!(x.Flags != 224)&&!decide ((x.Data.length:Int) > 255)))):=by
  intro x
  unfold okO
  have e1:decide (1<=x.Type_/\x.Type_<=255)=(decide (1<=x.Type_)&&decide (x.Type_<=255)):=by rw[X28];simp
  have e2:decide (x.Flags=224)=!(x.Flags != 224):=by rw[X28];simp
  have e3:decide (x.Data.length<=255)=!decide ((x.Data.length:Int) > 255):=by rw[X28];simp;omega
  rw[e1,e2,e3]
  cases decide (1<=x.Type_)<;>cases decide (x.Type_<=255)<;>cases unk x.Type_<;>cases (x.Flags != 224)<;>cases decide ((x.Data.length:Int) > 255)<;>rfl
 refine (WG (ok:=okO) (lt:=ltT) (F:=some false) (by omega) (fun next x _=>?_) fun next x y i _ _ hg=>?_).trans ?_
 ·rw[AG,ER,AA,EB,hok]
  cases decide (1<=x.Type_)<;>cases decide (x.Type_<=255)<;>cases unk x.Type_<;>cases (x.Flags != 224)<;>cases decide ((x.Data.length:Int) > 255)<;>rfl
 ·have e:decide (((i+1:Nat):Int) > 0)=true:=by simp
  have e2:decide (y.Type_ ≥ x.Type_)=!ltT y x:=by unfold ltT;rw[X28];simp
  rw[AG,ER,AA,EB,hok,hg,e]
  simp only[AA,e2]
  cases decide (1<=x.Type_)<;>cases decide (x.Type_<=255)<;>cases unk x.Type_<;>cases (x.Flags != 224)<;>cases decide ((x.Data.length:Int) > 255)<;>cases ltT y x<;>rfl
 have e:decide ((l.length:Int)<=8)=decide (l.length<=8):=by rw[X28];simp;omega
 rw[e]
 unfold DZ
 generalize (l.all okO&&chainB ltT l)=b
 cases b<;>rfl
theorem Ll {a:YY}(h:SmT a):BZ a=some (HD a):=by
 unfold BZ HD
 rw[AG,EB,AA,KZ (by have:=h.p;omega) (by have:=h.t;omega),AA,DU,AA,EB,AA,EB,AA,Ie (by have:=h.c;omega),F3 (by have:=h.l;omega),TE h.o,number_eq]
 simp only[AA]
 have d1:decide (-1<=a.Origin/\a.Origin<=2)=(decide (-1<=a.Origin)&&decide (a.Origin<=2)):=by rw[X28];simp
 have d2:decide (-1<=a.MED/\a.MED<=4294967295)=(decide (-1<=a.MED)&&decide (a.MED<=4294967295)):=by rw[X28];simp
 have d3:decide (-1<=a.Pref/\a.Pref<=4294967295)=(decide (-1<=a.Pref)&&decide (a.Pref<=4294967295)):=by rw[X28];simp
 have d4:Jm a.OTC=(decide (1<=a.OTC)&&decide (a.OTC<=4294967295)):=rfl
 have d5:decide (a.OTC=-1)=(a.OTC==-1):=rfl
 rw[d1,d2,d3,d4,d5]
 generalize (decide (-1<=a.Origin)&&decide (a.Origin<=2))=b1
 generalize HN a.Path=b3
 generalize a.Next.ok=b4
 generalize (decide (-1<=a.MED)&&decide (a.MED<=4294967295))=b5
 generalize (decide (-1<=a.Pref)&&decide (a.Pref<=4294967295))=b7
 generalize (a.OTC==-1)=b9
 generalize (decide (1<=a.OTC)&&decide (a.OTC<=4294967295))=b10
 generalize GQ a.Communities=b12
 generalize Gm a.Ye=b13
 generalize DZ a.Other=b14
 generalize decide (a.Other.length<=8)=b15
 cases b1
 ·simp
 cases b3
 ·simp
 cases b4
 ·simp
 cases b5
 ·simp
 cases b7
 ·simp
 cases b9<;>cases b10<;>cases b12<;>cases b13<;>cases b14<;>cases b15<;>rfl
def w4 (n:Int):List UInt8:=[(Ab (Int.fdiv n (2^(min (Int.toNat 24) 64)))),(Ab (Int.fdiv n (2^(min (Int.toNat 16) 64)))),(Ab (Int.fdiv n (2^(min (Int.toNat 8) 64)))),(Ab n)]
def w2 (n:Int):List UInt8:=[(Ab (Int.fdiv n (2^(min (Int.toNat 8) 64)))),(Ab n)]
theorem OW (n:Int):(w4 n).length=4:=rfl
theorem Na (l:List Int):(l.flatMap w4).length=4*l.length:=by
 induction l with
 | nil=>rfl
 | cons x t ih=>rw[List.flatMap_cons,X11,ih,OW,X12];omega
theorem put_eq {b:List UInt8}{l:List Int}(h:b.length+4*l.length<=1000000000):Bg b l=some (b++l.flatMap w4):=by
 unfold Bg
 rw[AG]
 refine (Td (g:=w4) (N:=1000000000) (by rw[Na];omega) fun next x i v _ hv=>?_).trans rfl
 have e:([(Ab (Int.fdiv x (2^(min (Int.toNat 24) 64)))),(Ab (Int.fdiv x (2^(min (Int.toNat 16) 64)))),(Ab (Int.fdiv x (2^(min (Int.toNat 8) 64)))),(Ab x)]:List UInt8)=w4 x:=rfl
 rw[e,AY (by decide) hv,AA]
theorem IX (n:Int):Ao [n]=some (w4 n):=by
 have:Ao [n]=Bg [] [n]:=rfl
 rw[this,put_eq (by simp)]
 rfl
def Vv (s:Yd):List UInt8:=[(if s.Set=true then (1:UInt8) else 2),Ab (s.ASNs.length:Int)]++s.ASNs.flatMap w4
def L0 (p:List Yd):List UInt8:=p.flatMap Vv
theorem QE (s:Yd):(Vv s).length=2+4*s.ASNs.length:=by
 unfold Vv
 rw[X11,Na];rfl
theorem Nj (p:List Yd):(L0 p).length=2*p.length+4*tot p:=by
 unfold L0
 induction p with
 | nil=>rfl
 | cons s t ih=>rw[List.flatMap_cons,X11,ih,QE,X12,C2];omega
theorem TZ {p:List Yd}(h:2*p.length+4*tot p<=100000000):A0 p=some (L0 p):=by
 unfold A0
 rw[AG]
 have hl:=Nj p
 unfold L0 at hl ⊢
 refine (Td (g:=Vv) (N:=100000000) (by rw[hl];simp only[X13];omega) fun next s i v _ hv=>?_).trans rfl
 rw[QE] at hv
 rw[SZ,AY (by decide) (by simp;omega),AA,put_eq (by simp;omega),AA,List.append_assoc]
 rfl
def I9 (c:YZ):List UInt8:=w2 c.A++w2 c.B
def HA (c:Ye):List UInt8:=w4 c.A++(w4 c.B++w4 c.C)
theorem OE (c:YZ):(I9 c).length=4:=rfl
theorem Lh (c:Ye):(HA c).length=12:=rfl
theorem NW (l:List YZ):(l.flatMap I9).length=4*l.length:=by
 induction l with
 | nil=>rfl
 | cons x t ih=>rw[List.flatMap_cons,X11,ih,OE,X12];omega
theorem Nk (l:List Ye):(l.flatMap HA).length=12*l.length:=by
 induction l with
 | nil=>rfl
 | cons x t ih=>rw[List.flatMap_cons,X11,ih,Lh,X12];omega
theorem RX {a b:Nat}(h:a%256=b%256):UInt8.ofNat a=UInt8.ofNat b:=by
 apply UInt8.toNat_inj.1
 simp only[UInt8.toNat_ofNat']
 exact h
theorem fd (n k:Nat):Int.fdiv (n:Int) (2^(min (Int.toNat (k:Int)) 64))=((n/2^(min k 64):Nat):Int):=by
 rw[Int.toNat_natCast]
 have:((2:Int)^(min k 64))=((2^(min k 64):Nat):Int):=by simp
 rw[this,Int.fdiv_eq_ediv_of_nonneg _ (Int.natCast_nonneg _),Int.natCast_ediv]
theorem WZ (n:Nat):w4 (n:Int)=[UInt8.ofNat (n/16777216),UInt8.ofNat (n/65536),UInt8.ofNat (n/256),UInt8.ofNat n]:=by
 have h1:=fd n 24
 have h2:=fd n 16
 have h3:=fd n 8
 have h1:Int.fdiv (n:Int) (2^(min (Int.toNat 24) 64))=((n/2^(min 24 64):Nat):Int):=h1
 have h2:Int.fdiv (n:Int) (2^(min (Int.toNat 16) 64))=((n/2^(min 16 64):Nat):Int):=h2
 have h3:Int.fdiv (n:Int) (2^(min (Int.toNat 8) 64))=((n/2^(min 8 64):Nat):Int):=h3
 unfold w4
 rw[h1,h2,h3,Bj,Bj,Bj,Bj]
 rfl
theorem VI (n:Nat):w2 (n:Int)=[UInt8.ofNat (n/256),UInt8.ofNat n]:=by
 have h3:=fd n 8
 have h3:Int.fdiv (n:Int) (2^(min (Int.toNat 8) 64))=((n/2^(min 8 64):Nat):Int):=h3
 unfold w2
 rw[h3,Bj,Bj]
 rfl
theorem Ta {c:YZ}(h:okC c=true):w4 (AT ((BitVec.ofInt 64 (AT (c.A*(2^(min (Int.toNat 16) 64)))) ||| BitVec.ofInt 64 c.B).toNat:Int))=I9 c:=by
 simp only[okC,inR,X27,decide_eq_true_eq] at h
 obtain⟨a,ha⟩ :∃a:Nat,c.A=a:=⟨c.A.toNat,by omega⟩
 obtain⟨b,hb⟩ :∃b:Nat,c.B=b:=⟨c.B.toNat,by omega⟩
 unfold I9
 rw[ha,hb] at h ⊢
 have e:((a:Int)*(2^(min (Int.toNat 16) 64)))=((a*65536:Nat):Int):=by
  have:min (Int.toNat 16) 64=16:=rfl
  rw[this];omega
 rw[e,AZ (x:=((a*65536:Nat):Int)) (by omega),BitVec.ofInt_natCast,BitVec.ofInt_natCast,BitVec.toNat_or,BitVec.toNat_ofNat,BitVec.toNat_ofNat,Nat.mod_eq_of_lt (show a*65536<2^64 by omega),Nat.mod_eq_of_lt (show b<2^64 by omega),
  show a*65536=2^16*a by omega,<- Nat.two_pow_add_eq_or_of_lt (show b<2^16 by omega),AZ (by omega),WZ,VI,VI]
 have q1:(2^16*a+b)/16777216=a/256:=by omega
 have q2:(2^16*a+b)/65536=a:=by omega
 have q3:UInt8.ofNat ((2^16*a+b)/256)=UInt8.ofNat (b/256):=RX (by omega)
 have q4:UInt8.ofNat (2^16*a+b)=UInt8.ofNat b:=RX (by omega)
 rw[q1,q2,q3,q4]
 rfl
theorem RO {l:List YZ}(hv :∀c∈l,okC c=true)(h:l.length<=1000000):A7 l=some (l.flatMap I9):=by
 unfold A7
 rw[AG]
 refine (Td (g:=I9) (N:=100000000) (by rw[NW];simp only[X13];omega) fun next c i v hc hl=>?_).trans rfl
 rw[OE] at hl
 rw[put_eq (by simp;omega),AA,List.flatMap_cons,List.flatMap_nil,List.append_nil,Ta (hv c hc)]
theorem Qz {l:List Ye}(h:l.length<=1000000):By l=some (l.flatMap HA):=by
 unfold By
 rw[AG]
 refine (Td (g:=HA) (N:=100000000) (by rw[Nk];simp only[X13];omega) fun next c i v hc hl=>?_).trans rfl
 rw[Lh] at hl
 rw[put_eq (by simp;omega),AA]
 simp[HA]
def b4 (n:Nat):List UInt8:=[UInt8.ofNat (n/16777216),UInt8.ofNat (n/65536),UInt8.ofNat (n/256),UInt8.ofNat n]
theorem Addr.four {a:Addr}(h:a.ok=true)(h6:a.V6=false):a.Hi.toNat=0/\a.Lo.toNat<4294967296:=by
 unfold Addr.ok at h
 rw[h6,cond_false] at h
 cases h1:((a.Hi.toNat:Int)==0)
 ·rw[h1] at h;simp at h
 rw[h1,cond_true,decide_eq_true_eq] at h
 simp only[beq_iff_eq] at h1
 omega
theorem Tv {x:UInt64}{h:UInt64}(hx:x.toNat<4294967296)(hh:h.toNat=0):(AL ((BitVec.ofInt 64 ((AL (Int.fdiv (x.toNat:Int) (2^(min (Int.toNat 8) 64)))).toNat:Int) ||| BitVec.ofInt 64 ((AL ((h.toNat:Int)*(2^(min (Int.toNat 56) 64)))).toNat:Int)).toNat:Int)).toNat=x.toNat/256/\
  (AL (Int.fdiv (h.toNat:Int) (2^(min (Int.toNat 8) 64)))).toNat=0:=by
 have e1:Int.fdiv (x.toNat:Int) (2^(min (Int.toNat 8) 64))=((x.toNat/256:Nat):Int):=fd x.toNat 8
 have e2:Int.fdiv (h.toNat:Int) (2^(min (Int.toNat 8) 64))=((h.toNat/256:Nat):Int):=fd h.toNat 8
 rw[e1,e2,hh,A4]
 have e3:(((0:Nat):Int)*(2^(min (Int.toNat 56) 64)))=((0:Nat):Int):=by simp
 rw[e3,A4,A4]
 have e4:(UInt64.ofNat 0).toNat=0:=rfl
 have e5:(UInt64.ofNat (x.toNat/256)).toNat=x.toNat/256:=by rw[UInt64.toNat_ofNat'];omega
 rw[e4,e5,BitVec.ofInt_natCast,BitVec.ofInt_natCast,BitVec.toNat_or,BitVec.toNat_ofNat,BitVec.toNat_ofNat,Nat.zero_mod,Nat.or_zero,Nat.mod_eq_of_lt (by omega)]
 exact⟨e5,rfl⟩
theorem Q7 {a:Addr}(h:a.ok=true)(h6:a.V6=false):Ar a=some (b4 a.Lo.toNat):=by
 obtain⟨hhi,hlo⟩:=Addr.four h h6
 unfold Ar
 rw[DU,AA,h,if_neg (by decide),AG,h6,if_neg (by decide)]
 have ck:chk ((0:Int)<=4/\(4:Int)<=4/\(4:Int)<=1048576)=some ():=by unfold chk;rw[if_pos (by decide)]
 show Option.bind (chk ((0:Int)<=4/\(4:Int)<=4/\(4:Int)<=1048576)) _=_
 rw[ck,AA,AG]
 refine (EI (fun s:Int×Addr×List UInt8=>∃j:Nat,j<=4/\s.1=3-(j:Int)/\s.2.1.Hi.toNat=0/\s.2.1.Lo.toNat=a.Lo.toNat/256^j/\s.2.2=List.replicate (4-j) 0++(b4 a.Lo.toNat).drop (4-j)) (fun s=>(s.1+1).toNat) (fun s=>some (b4 a.Lo.toNat)) ?_ fuel (AT (4-1),a,List.replicate (Int.toNat 4) (0:UInt8)) ?_ ?_).trans rfl
 ·rintro next ⟨i,x,l⟩ ⟨j,hj,h1,h2,h3,h4⟩ hk
  dsimp only at h1 h2 h3 h4 ⊢
  subst h1
  have hx:x.Lo.toNat<4294967296:=by
   rw[h3];exact Nat.lt_of_le_of_lt (Nat.div_le_self _ _) hlo
  obtain⟨s1,s2⟩:=Tv hx h2
  have hlt:j=4\/j<4:=by omega
  rcases hlt with rfl | hlt
  ·rw[if_neg (by decide),h4]
   simp[b4]
  have hlen:l.length=4:=by rw[h4];simp[b4]<;>omega
  have hg :∃y,geti l (3-(j:Int))=some y:=by
   obtain⟨y,hy,_⟩:=Ok.geti (l:=l) (i:=3-(j:Int)) (by omega)
   exact⟨y,hy⟩
  obtain⟨y,hy⟩:=hg
  have hs:seti l (3-(j:Int)) (Ab (x.Lo.toNat:Int))=some (l.set (3-j) (UInt8.ofNat x.Lo.toNat)):=by
   unfold seti
   rw[if_pos (by omega),Bj]
   congr 2
   omega
  rw[if_pos (by simp only[decide_eq_true_eq];omega),hy,AA,hs,AA,AZ (by omega)]
  refine hk _ ⟨j+1,by omega,by simp only;omega,s2,?_,?_⟩ (by simp only;omega)
  ·simp only
   rw[s1,h3,Nat.div_div_eq_div_mul,Nat.pow_succ]
  simp only
  rw[h4,h3]
  match j,hlt with
  | 0,_=>simp[b4]
  | 1,_=>simp[b4]
  | 2,_=>simp[b4]
  | 3,_=>simp[b4]
 ·refine⟨0,by omega,by dsimp only;rw[AZ (by omega)];rfl,hhi,by simp,?_⟩
  simp[b4]
 dsimp only
 rw[AZ (by omega)]
 exact Et (by omega)
theorem Uy (a:Addr) :∃r,Ar a=some r:=by
 have:Ok (Ar a) fun _=>True:=by
  unfold Ar
  rw[DU]
  refine .bind (P:=fun _=>True) ⟨_,rfl,trivial⟩ fun v _=>.ite (fun _=>.ret trivial) fun _=>?_
  refine .join (fun n:Int=>n=16\/n=4) (fun k hk=>.ite (fun _=>hk _ (.inl rfl)) fun _=>hk _ (.inr rfl)) fun n hn=>?_
  refine .bind (Ok.chk (by omega)) fun _ _=>.join (fun _=>True) (fun k hk=>?_) fun _ _=>.ret trivial
  refine .whileI (fun s:Int×Addr×List UInt8=>-1<=s.1/\s.1<n/\(s.2.2.length:Int)=n) (fun s=>(s.1+1).toNat) ⟨by dsimp only;rw[AZ (by omega)];omega,by dsimp only;rw[AZ (by omega)];omega,by dsimp only;rw[X20];omega⟩ (Et (by dsimp only;rw[AZ (by omega)];omega)) ?_
  rintro next ⟨i,x,l⟩ ⟨h1,h2,h3⟩ hnx
  dsimp only at h1 h2 h3 ⊢
  refine .ite (fun h=>?_) fun _=>hk _ trivial
  simp only[decide_eq_true_eq] at h
  refine .bind (.geti (by omega)) fun _ _=>.bind (.seti (by omega)) fun l2 hl2=>?_
  rw[AZ (by omega)]
  exact hnx _ ⟨by dsimp only;omega,by dsimp only;omega,by dsimp only;omega⟩ (by dsimp only;omega)
 obtain⟨r,h,_⟩:=this
 exact⟨r,h⟩
def K1 (a:YY):Bool:=!a.Next.V6&&!(Addr.eqd a.Next ⟨false,0,0⟩)
def G (a:YY)(k:Int):Option (List UInt8):=
 if k=1 then (if a.Origin≠-1 then some [Ab a.Origin] else none) else
 if k=2 then (if a.Origin≠-1\/a.Path≠[] then some (L0 a.Path) else none) else
 if k=3 then (if K1 a=true then some (b4 a.Next.Lo.toNat) else none) else
 if k=4 then (if a.MED≠-1 then some (w4 a.MED) else none) else
 if k=5 then (if a.Pref≠-1 then some (w4 a.Pref) else none) else
 if k=8 then (if a.Communities≠[] then some (a.Communities.flatMap I9) else none) else
 if k=32 then (if a.Ye≠[] then some (a.Ye.flatMap HA) else none) else
 if k=35 then (if a.OTC≠-1 then some (w4 a.OTC) else none) else none
def ent (a:YY)(k:Int):List YX:=match G a k with
 | some b=>[⟨fl k,k,b⟩]
 | none=>[]
def ofK (l:List YX)(k:Int):List YX:=l.flatMap fun x=>if (x.Type_==k)=true then [x] else []
def wrS (a:YY):List YX:=(List.range' 0 256).flatMap fun (k:Nat)=>ent a k++ofK a.Other k
theorem MU {a:YY}{k:Int}(h:fl k=0):G a k=none:=by
 rcases HC k with ⟨_,e⟩|⟨_,e⟩|⟨_,e⟩|⟨_,e⟩|⟨_,e⟩|⟨_,e⟩|⟨_,e⟩|⟨_,e⟩|⟨e1,e2,e3,e4,e5,e6,e7,e8,_⟩
 iterate 8 (rw[e] at h;exact absurd h (by decide))
 unfold G
 rw[if_neg e1,if_neg e2,if_neg e3,if_neg e4,if_neg e5,if_neg e6,if_neg e7,if_neg e8]
theorem Ky {l:List YX}{k:Int}{y:YX}:y∈ofK l k↔y∈l/\y.Type_=k:=by
 unfold ofK
 rw[List.mem_flatMap]
 constructor
 ·rintro⟨x,hx,h⟩
  split at h
  ·rename_i hc
   rw[X14] at h
   subst h
   exact⟨hx,by simpa using hc⟩
  simp at h
 rintro⟨hy,e⟩
 exact⟨y,hy,by rw[if_pos (by simpa using e)];simp⟩
theorem GP {a:YY}{k:Int}{y:YX}:y∈ent a k ↔∃b,G a k=some b/\y=⟨fl k,k,b⟩:=by
 unfold ent
 cases G a k with
 | none=>simp
 | some b=>simp
theorem JG {a:YY}{k:Int}{y:YX}(h:y∈ent a k):y.Type_=k:=by
 obtain⟨b,_,rfl⟩:=GP.1 h
 rfl
theorem Qj {a:YY}(hO:DZ a.Other=true){y:YX}:y∈wrS a↔(∃k,y∈ent a k)\/y∈a.Other:=by
 unfold wrS
 simp only[List.mem_flatMap,List.mem_range'_1,X23]
 constructor
 ·rintro⟨k,hk,h | h⟩
  ·exact .inl ⟨_,h⟩
  exact .inr (Ky.1 h).1
 rintro (⟨k,h⟩|h)
 ·obtain⟨b,hb,_⟩:=GP.1 h
  have hk:0<=k/\k<256:=by
   rcases HC k with ⟨e,_⟩|⟨e,_⟩|⟨e,_⟩|⟨e,_⟩|⟨e,_⟩|⟨e,_⟩|⟨e,_⟩|⟨e,_⟩|e
   iterate 8 omega
   rw[MU e.2.2.2.2.2.2.2.2] at hb;cases hb
  refine⟨k.toNat,by omega,.inl ?_⟩
  rw[show ((k.toNat:Nat):Int)=k by omega]
  exact h
 unfold DZ at hO
 rw[X27,List.all_eq_true] at hO
 have:=hO.1 y h
 simp only[okO,X27,decide_eq_true_eq] at this
 exact⟨y.Type_.toNat,by omega,.inr (Ky.2 ⟨h,by omega⟩)⟩
theorem Fo {l:List YX}(hO:DZ l=true){x:YX}(h:x∈l):unk x.Type_=true/\1<=x.Type_/\x.Type_<=255/\x.Flags=224/\x.Data.length<=255:=by
 unfold DZ at hO
 rw[X27,List.all_eq_true] at hO
 have:=hO.1 x h
 simp only[okO,X27,decide_eq_true_eq] at this
 exact⟨this.2.1,this.1.1,this.1.2,this.2.2.1,this.2.2.2⟩
theorem T0 {t:Int}(h:unk t=true):fl t=0:=by
 simp only[unk,X27,decide_eq_true_eq] at h
 exact h.1
theorem Ik {l:List YX}(hO:DZ l=true):l.Pairwise fun a b=>ltT a b=true:=by
 unfold DZ at hO
 rw[X27] at hO
 exact (Hy Tu).1 hO.2
theorem Jq {a:YY}(hO:DZ a.Other=true):(wrS a).Pairwise fun a b=>ltK F4 a b=true:=by
 unfold wrS
 rw[List.pairwise_flatMap]
 have ht :∀(k:Nat) y,y∈ent a k++ofK a.Other k->y.Type_=k:=by
  intro k y hy
  rcases X23.1 hy with h | h
  ·exact JG h
  exact (Ky.1 h).2
 constructor
 ·intro k _
  rw[List.pairwise_append]
  refine⟨?_,?_,?_⟩
  ·unfold ent
   split
   ·exact List.pairwise_singleton _ _
   exact .nil
  ·unfold ofK
   rw[List.pairwise_flatMap]
   refine⟨fun x _=>TC,(Ik hO).imp fun {p q} hpq x hx y hy=>?_⟩
   have e1:p.Type_=k:=by
    split at hx
    ·simpa using ‹(p.Type_==(k:Int))=true›
    simp at hx
   have e2:q.Type_=k:=by
    split at hy
    ·simpa using ‹(q.Type_==(k:Int))=true›
    simp at hy
   simp only[ltT,decide_eq_true_eq] at hpq
   omega
  intro x hx y hy
  obtain⟨b,hb,_⟩:=GP.1 hx
  obtain⟨hy1,hy2⟩:=Ky.1 hy
  have:=T0 (Fo hO hy1).1
  rw[hy2] at this
  rw[MU this] at hb;cases hb
 refine (List.pairwise_lt_range' (s:=0) (n:=256)).imp fun {p q} hpq x hx y hy=>?_
 have e1:=ht p x hx
 have e2:=ht q y hy
 rw[R9]
 simp only[ltT,decide_eq_true_eq]
 omega
theorem Vt {a:YY}(hO:DZ a.Other=true):TP (wrS a):=(Jq hO).imp fun {p q} h e=>by
 rw[R9] at h
 simp only[ltT,decide_eq_true_eq] at h
 omega
theorem Es (a:YY)(k:Int):(ent a k).length<=1:=by unfold ent;split<;>simp
structure Puts (m:List (Int×List UInt8))(a:YY)(ks:List Int):Prop where
 h :∀k,B8 m k=if k∈ks then G a k else none
theorem Puts.add {m:List (Int×List UInt8)}{a:YY}{ks:List Int}(p:Puts m a ks)(k:Int){b:List UInt8}(hb:G a k=some b):Puts (M4 m k b) a (k::ks):=⟨fun j=>by
 rw[Go.AX.mget_mset,p.h]
 by_cases h:j=k
 ·subst h;simp[hb]
 have:(j==k)=false:=by simpa using h
 rw[this];simp[h]⟩
theorem Puts.skip {m:List (Int×List UInt8)}{a:YY}{ks:List Int}(p:Puts m a ks)(k:Int)(hb:G a k=none):Puts m a (k::ks):=⟨fun j=>by
 rw[p.h]
 by_cases h:j=k
 ·subst h;simp[hb]
 simp[h]⟩
structure VA (a:YY):Prop where
 O:DZ a.Other=true
 o:-1<=a.Origin/\a.Origin<=2
 p:HN a.Path=true
 n:a.Next.ok=true
 m:-1<=a.MED/\a.MED<=4294967295
 r:-1<=a.Pref/\a.Pref<=4294967295
 t:a.OTC=-1\/(1<=a.OTC/\a.OTC<=4294967295)
 c:GQ a.Communities=true
 l:Gm a.Ye=true
 e:a.Other.length<=8
theorem ON {a:YY}:HD a=true↔VA a:=by
 unfold HD Jm
 simp only[X27,Bool.or_eq_true,decide_eq_true_eq]
 constructor
 ·rintro⟨h1,h2,h3,h4,h5,h6,h7,h8,h9,h10⟩
  exact⟨h1,h2,h3,h4,h5,h6,h7,h8,h9,h10⟩
 rintro⟨h1,h2,h3,h4,h5,h6,h7,h8,h9,h10⟩
 exact⟨h1,h2,h3,h4,h5,h6,h7,h8,h9,h10⟩
theorem Hu {p:List Yd}(h:HN p=true):p.length<=tot p/\tot p<=64:=by
 unfold HN at h
 simp only[X27,List.all_eq_true,decide_eq_true_eq] at h
 refine⟨?_,h.2⟩
 have h1:=h.1.1
 clear h
 induction p with
 | nil=>exact Nat.le_refl _
 | cons s t ih=>
  rw[C2,X12]
  have h2:=ih fun x hx=>h1 x (X19 _ hx)
  have h3:=h1 s (by simp)
  simp only[NS,X27,decide_eq_true_eq] at h3
  omega
theorem VA.sm {a:YY}(v:VA a):SmT a:=by
 obtain⟨h1,h2⟩:=Hu v.p
 have h3:=(GX.1 v.c).2.2
 have h4:=(GW.1 v.l).2.2
 have h5:=v.e
 exact⟨by omega,by omega,by omega,by omega,by omega,fun u hu=>by have:=(Fo v.O hu).2.2.2.2;omega⟩
theorem XK {a:YY}(v:VA a){k:Int}{b:List UInt8}(h:G a k=some b):b.length<=768:=by
 obtain⟨h1,h2⟩:=Hu v.p
 have h3:=(GX.1 v.c).2.2
 have h4:=(GW.1 v.l).2.2
 unfold G at h
 split at h
 ·split at h
  ·obtain rfl:=X25 h;simp
  cases h
 split at h
 ·split at h
  ·obtain rfl:=X25 h;rw[Nj];omega
  cases h
 split at h
 ·split at h
  ·obtain rfl:=X25 h;simp[b4]
  cases h
 split at h
 ·split at h
  ·obtain rfl:=X25 h;rw[OW];omega
  cases h
 split at h
 ·split at h
  ·obtain rfl:=X25 h;rw[OW];omega
  cases h
 split at h
 ·split at h
  ·obtain rfl:=X25 h;rw[NW];omega
  cases h
 split at h
 ·split at h
  ·obtain rfl:=X25 h;rw[Nk];omega
  cases h
 split at h
 ·split at h
  ·obtain rfl:=X25 h;rw[OW];omega
  cases h
 cases h
theorem VF {v:List YX}{k f:Int}{d:List UInt8}{c:Bool}{ρ:Type}{K:List YX->Option ρ}(hf:fl k=f)(hv:v.length<=1000000) :
  AH (τ:=(List YX)) (fun k33=>
   AH (τ:=(List YX)) (fun k34=>
    if c=true then
     Option.bind (some (Option.getD (B8 BE k) 0)) fun v35=>
     Option.bind (apnd (α:=YX) 40 v ([(⟨v35,k,d⟩:YX)]:List YX)) fun v36=>
     k34 v36
    else
     k34 v
   ) fun v37=>
   k33 v37
  ) K=K (v++if c=true then [⟨fl k,k,d⟩] else []):=by
 rw[AG,AG,Ih]
 cases c
 ·rw[if_neg (by decide),if_neg (by decide),List.append_nil]
 rw[if_pos rfl,if_pos rfl,AA,AY (by decide) (by simp;omega),AA]
theorem Sv (a b:YX):BW a b=some (Dx (F4 a) (F4 b)):=PI a b
def Jj:List Int:=[1,2,3,4,5,8,32,35]
def KT (a:YY):List YX:=Jj.flatMap (ent a)++a.Other
theorem TQ {a:YY}{k:Int}{y:YX}(h:y∈ent a k):k∈Jj:=by
 obtain⟨b,hb,_⟩:=GP.1 h
 rcases HC k with ⟨e,_⟩|⟨e,_⟩|⟨e,_⟩|⟨e,_⟩|⟨e,_⟩|⟨e,_⟩|⟨e,_⟩|⟨e,_⟩|e
 iterate 8 (subst e;decide)
 rw[MU e.2.2.2.2.2.2.2.2] at hb;cases hb
theorem U5 {a:YY}{y:YX}:y∈KT a↔(∃k,y∈ent a k)\/y∈a.Other:=by
 unfold KT
 rw[X23,List.mem_flatMap]
 exact⟨fun h=>h.imp_left fun ⟨k,_,h⟩=>⟨k,h⟩,fun h=>h.imp_left fun ⟨k,h⟩=>⟨k,TQ h,h⟩⟩
theorem Tn {a:YY}(hO:DZ a.Other=true):(KT a).Pairwise fun x y=>F4 x≠F4 y:=by
 unfold KT
 have hk :∀{x y:YX},x.Type_≠y.Type_->F4 x≠F4 y:=fun h e=>h (by simpa[F4] using e)
 refine List.pairwise_append.2 ⟨?_,(Ik hO).imp fun {x y} h=>hk (by simp only[ltT,decide_eq_true_eq] at h;omega),fun x hx y hy=>hk fun e=>?_⟩
 ·rw[List.pairwise_flatMap]
  refine⟨fun k _=>?_,?_⟩
  ·unfold ent
   split
   ·exact List.pairwise_singleton _ _
   exact .nil
  have:Jj.Pairwise (·≠·):=by decide
  exact this.imp fun {k j} h x hx y hy=>hk (by rw[JG hx,JG hy];exact h)
 obtain⟨k,_,hx⟩:=List.mem_flatMap.1 hx
 obtain⟨b,hb,_⟩:=GP.1 hx
 have:=T0 (Fo hO hy).1
 rw[<- e,JG hx] at this
 rw[MU this] at hb;cases hb
theorem N8 {a:YY}(hO:DZ a.Other=true)(hl:(KT a).length<=1000000):D9 BW (KT a)=some (wrS a):=by
 obtain⟨r,h1,h2,h3⟩:=R2 F7 Sv (l:=KT a) (by omega)
 rw[h1]
 congr 1
 refine SQ F7 (OG F7 h3 ?_) (Jq hO) fun x=>?_
 ·exact (h2.pairwise_iff fun h e=>h e.symm).2 (Tn hO)
 rw[h2.mem_iff,U5,Qj hO]
theorem V7 {l:List YX}(hl:l.length<=1000)(hd :∀x∈l,x.Data.length<=1000000){v:List YX}(hv:v.length<=1000){ρ:Type}{K:List YX->Option ρ} :
  AH (τ:=(List YX)) (fun k67=>
   Ah (σ:=(List YX)) (fun v68=>
    k67 v68
   ) (fun next69 (x70:YX) i71 v68=>
    Option.bind (A1 x70.Data) fun v72=>
    Option.bind (apnd (α:=YX) 40 v68 ([{ x70 with Data:=v72 }]:List YX)) fun v73=>
    next69 v73
   ) l 0 v
  ) K=K (v++l):=by
 rw[AG]
 have e:l.flatMap (fun x=>[x])=l:=by simp
 refine (Td (g:=fun x:YX=>[x]) (N:=100000) (by rw[e];omega) fun next x i w hx hw=>?_).trans (by rw[e])
 have:=hd x hx
 simp only[X22] at hw
 unfold A1
 rw[AY (by decide) (by simp;omega),AA,AA,List.nil_append,AY (by decide) (by simp;omega),AA]
theorem Lq (a:YY):(Jj.flatMap (ent a)).length<=8:=QP (Es a) Jj
theorem Im {b:List UInt8}{x y:Int}(hb:b.length<=1000000):Ok (Do b x y) fun r=>r.length<=b.length+1:=by
 unfold Do
 refine .bind (Ok.apnd (by decide) (by simp;omega)) fun _ _=>.ite (fun _=>.ret (by simp)) fun h=>?_
 have hpos:0<b.length:=by
  cases b with
  | nil=>simp at h
  | cons z t=>simp
 refine .bind (Ag (by omega)) fun k hk=>.bind (Ag (by omega)) fun q _=>?_
 refine .ite (fun _=>?_) fun _=>.ite (fun _=>?_) fun _=>.ite (fun _=>?_) fun _=>?_
 ·exact .bind (.geti (by omega)) fun _ _=>.bind (.seti (by omega)) fun r hr=>.ret (by omega)
 ·rw[AZ (x:=k+1) (by omega)]
  refine .bind (Ok.chk (by omega)) fun _ _=>.bind (Ok.chk (by omega)) fun _ _=>.bind (Ok.apnd (by decide) (by simp only[X18,X17];omega)) fun r hr=>.ret ?_
  rw[hr]
  simp only[X11,X18,X17]
  omega
 ·refine .bind (Ok.chk (by omega)) fun _ _=>.bind (Ok.apnd (by decide) (by simp only[X13,X18,X17];omega)) fun _ _=>.bind (Ok.apnd (by decide) (by simp only[X18,X17,X22];omega)) fun r hr=>.bind (Ok.chk (by omega)) fun _ _=>.bind (Ok.apnd (by decide) (by rw[hr];simp only[X11,X18,X17,X22];omega)) fun s hs=>.ret ?_
  rw[hs,hr]
  simp only[X11,X18,X17,X22]
  omega
 refine .bind (.part (by omega)) fun r hr=>.ret ?_
 omega
theorem Q8 {a:YY}(v:VA a):(wrS a).length<=16:=by
 have h:=Jc (N8 v.O (by unfold KT;rw[X11];have:=Lq a;have:=v.e;omega))
 rw[h]
 unfold KT
 rw[X11]
 have:=Lq a
 have:=v.e
 omega
theorem Ri {a:YY}(v:VA a){x:YX}(h:x∈wrS a):x.Data.length<=768:=by
 rcases (Qj v.O).1 h with ⟨k,h⟩|h
 ·obtain⟨b,hb,rfl⟩:=GP.1 h
  exact XK v hb
 have:=(Fo v.O h).2.2.2.2
 omega
theorem Vg {h l:UInt64}(hh:h.toNat=0)(hl:l.toNat<72057594037927936):(AL ((BitVec.ofInt 64 ((AL ((h.toNat:Int)*(2^(min (Int.toNat 8) 64)))).toNat:Int) ||| BitVec.ofInt 64 ((AL (Int.fdiv (l.toNat:Int) (2^(min (Int.toNat 56) 64)))).toNat:Int)).toNat:Int))=0:=by
 have e1:Int.fdiv (l.toNat:Int) (2^(min (Int.toNat 56) 64))=((l.toNat/2^(min 56 64):Nat):Int):=fd l.toNat 56
 have e2:l.toNat/2^(min 56 64)=0:=Nat.div_eq_of_lt hl
 rw[e1,e2,hh]
 have e3:(((0:Nat):Int)*(2^(min (Int.toNat 8) 64)))=((0:Nat):Int):=by simp
 rw[e3,A4]
 rfl
def RE (v4:Addr)(x6:UInt8):Addr:=⟨v4.V6,(AL ((BitVec.ofInt 64 ((AL ((v4.Hi.toNat:Int)*(2^(min (Int.toNat 8) 64)))).toNat:Int) ||| BitVec.ofInt 64 ((AL (Int.fdiv (v4.Lo.toNat:Int) (2^(min (Int.toNat 56) 64)))).toNat:Int)).toNat:Int)),(AL ((BitVec.ofInt 64 ((AL ((v4.Lo.toNat:Int)*(2^(min (Int.toNat 8) 64)))).toNat:Int) ||| BitVec.ofInt 64 ((AL (x6.toNat:Int)).toNat:Int)).toNat:Int))⟩
theorem Kx {m:Nat}(hm:m<16777216)(x:UInt8):RE ⟨false,0,UInt64.ofNat m⟩ x=⟨false,0,UInt64.ofNat (m*256+x.toNat)⟩:=by
 have e:(UInt64.ofNat m).toNat=m:=by rw[UInt64.toNat_ofNat'];omega
 unfold RE
 dsimp only
 rw[Vg rfl (by omega),OM (by omega) x.toNat_lt,e]
def okJ (x:YX):Bool:=decide (0<=x.Flags)&&(decide (x.Flags<=255)&&(decide (0<=x.Type_)&&(decide (x.Type_<=255)&&decide ((x.Data.length:Int)<=65535))))
def hdB (x:YX):List UInt8:=if decide ((x.Data.length:Int) > 255)=true then ([(Ab ((BitVec.ofInt 8 ((Ab ((BitVec.ofInt 8 ((Ab x.Flags).toNat:Int) &&& BitVec.ofInt 8 224).toNat:Int)).toNat:Int) ||| BitVec.ofInt 8 16).toNat:Int)),(Ab x.Type_),(Ab (Int.fdiv (x.Data.length:Int) (2^(min (Int.toNat 8) 64)))),(Ab (x.Data.length:Int))]:List UInt8)
 else ([(Ab ((BitVec.ofInt 8 ((Ab x.Flags).toNat:Int) &&& BitVec.ofInt 8 224).toNat:Int)),(Ab x.Type_),(Ab (x.Data.length:Int))]:List UInt8)
def ND (x:YX):List UInt8:=hdB x++x.Data
def FV (l:List YX):List UInt8:=l.flatMap ND
def CB (l:List YX):List UInt8×Int:=if l.all okJ=true then (if (FV l).length > 2048 then ([],3) else (FV l,0)) else ([],1)
theorem QD (x:YX):(ND x).length<=x.Data.length+4:=by
 unfold ND hdB
 rw[X11]
 split<;>simp<;>omega
theorem Wi {x:YX}{v:List UInt8}{ρ:Type}{K:List UInt8->Option ρ}(hv:v.length+4<=1000000000) :
  AH (τ:=(List UInt8)) (fun k12=>
    if (decide ((x.Data.length:Int) > 255))=true then
     Option.bind (apnd (α:=UInt8) 1 v ([(Ab ((BitVec.ofInt 8 ((Ab ((BitVec.ofInt 8 ((Ab x.Flags).toNat:Int) &&& BitVec.ofInt 8 224).toNat:Int)).toNat:Int) ||| BitVec.ofInt 8 16).toNat:Int)),(Ab x.Type_),(Ab (Int.fdiv (x.Data.length:Int) (2^(min (Int.toNat 8) 64)))),(Ab (x.Data.length:Int))]:List UInt8)) fun v13=>
     k12 v13
    else
     Option.bind (apnd (α:=UInt8) 1 v ([(Ab ((BitVec.ofInt 8 ((Ab x.Flags).toNat:Int) &&& BitVec.ofInt 8 224).toNat:Int)),(Ab x.Type_),(Ab (x.Data.length:Int))]:List UInt8)) fun v14=>
     k12 v14
   ) K=K (v++hdB x):=by
 rw[AG]
 unfold hdB
 split
 ·rw[AY (by decide) (by simp;omega),AA]
 rw[AY (by decide) (by simp;omega),AA]
theorem TX {l:List YX}(h1:l.length<=1000)(h2 :∀x∈l,x.Data.length<=100000):Cm l=some (CB l):=by
 unfold Cm CB
 rw[AG]
 refine (XF (g:=okJ) (r0:=some ([],1)) fun next x i _=>?_).trans ?_
 ·have e:okJ x=((decide (0<=x.Flags)&&decide (x.Flags<=255))&&((decide (0<=x.Type_)&&decide (x.Type_<=255))&&!decide ((x.Data.length:Int) > 65535))):=by
   unfold okJ
   rw[X28]
   simp only[X27,Bool.not_eq_true',decide_eq_true_eq,decide_eq_false_iff_not]
   omega
  rw[AG,e,EB,AA,EB]
  cases decide (0<=x.Flags)<;>cases decide (x.Flags<=255)<;>cases decide (0<=x.Type_)<;>cases decide (x.Type_<=255)<;>cases decide ((x.Data.length:Int) > 65535)<;>rfl
 cases ha:l.all okJ
 ·rfl
 rw[cond_true,if_pos rfl,AG]
 have key :∀(K:List UInt8->Option (List UInt8×Int)) (body:(List UInt8->Option (List UInt8×Int))->YX->Nat->List UInt8->Option (List UInt8×Int)),(∀next x i v,v.length<=2048->x.Data.length<=100000->body next x i v=if (v++ND x).length > 2048 then some ([],3) else next (v++ND x))->
   ∀(t:List YX) (i:Nat) (v:List UInt8),(∀x∈t,x.Data.length<=100000)->v.length<=2048->Ah K body t i v=if (v++FV t).length > 2048 then some ([],3) else K (v++FV t):=by
  intro K body hb t
  induction t with
  | nil=>
   intro i v _ hv
   have e:v++FV []=v:=by simp[FV]
   rw[e,if_neg (by omega)]
   rfl
  | cons x t ih=>
   intro i v hx hv
   show body (fun s=>Ah K body t (i+1) s) x i v=_
   have e:v++FV (x::t)=(v++ND x)++FV t:=by
    unfold FV
    rw[List.flatMap_cons,List.append_assoc]
   rw[hb _ x i v hv (hx x (by simp)),e]
   by_cases hc:(v++ND x).length > 2048
   ·rw[if_pos hc,if_pos (by rw[X11];omega)]
   rw[if_neg hc,ih (i+1) _ (fun y hy=>hx y (X19 _ hy)) (by omega)]
 refine (key _ _ (fun next x i v hv hd=>?_) l 0 [] h2 (by simp)).trans ?_
 ·have hh:(hdB x).length<=4:=by unfold hdB;split<;>simp
  unfold ND
  rw[Wi (by omega),AY (by decide) (by rw[X11];omega),AA,List.append_assoc]
  by_cases hc:(v++(hdB x++x.Data)).length > 2048
  ·rw[if_pos (by simp only[decide_eq_true_eq];omega),if_pos hc]
  rw[if_neg (by simp only[decide_eq_true_eq];omega),if_neg hc]
 rw[List.nil_append]
 split<;>rfl
theorem JC (b:List UInt8):DX b=some (decide ((b.length:Int)<=600)):=rfl
theorem Tj {l:List YX}:(CB l).1.length<=2048:=by
 unfold CB
 split
 ·split
  ·simp
  dsimp only;omega
 simp
theorem TM {d:List UInt8}(h:d.length=4):(addrOf d).ok=true:=by
 match d,h with
 | [a,b,c,e],_=>
  have h1 :∀K:Addr->Option (Addr×Int),Ah (σ:=Addr) (fun v4=>K v4) (fun next5 x6 _ v4=>next5 (RE v4 x6)) [a,b,c,e] 0 ⟨false,0,UInt64.ofNat 0⟩=K ⟨false,0,UInt64.ofNat (val [a,b,c,e])⟩:=by
   intro K
   have ha:=a.toNat_lt
   have hb:=b.toNat_lt
   have hc:=c.toNat_lt
   rw[V0]
   rw[List.foldl_cons,Kx (by omega),List.foldl_cons,Kx (by omega),List.foldl_cons,Kx (by omega),List.foldl_cons,Kx (by omega),List.foldl_nil]
   rfl
  have main:Du [a,b,c,e]=some (⟨false,0,UInt64.ofNat (val [a,b,c,e])⟩,0):=h1 fun v8=>some (v8,0)
  have hv:=MO [a,b,c,e]
  simp only[X12,X13] at hv
  unfold addrOf
  rw[main]
  show Addr.ok ⟨false,0,UInt64.ofNat (val [a,b,c,e])⟩=true
  have e2:(UInt64.ofNat (val [a,b,c,e])).toNat=val [a,b,c,e]:=by rw[UInt64.toNat_ofNat'];omega
  have e3:decide (((UInt64.ofNat (val [a,b,c,e])).toNat:Int)<4294967296)=true:=decide_eq_true (by rw[e2];omega)
  unfold Addr.ok
  dsimp only
  rw[e3]
  rfl
structure VB (a:YY):Prop where
 o:-1<=a.Origin/\a.Origin<=2
 p:HN a.Path=true
 n:a.Next.ok=true
 m:-1<=a.MED/\a.MED<=4294967295
 r:-1<=a.Pref/\a.Pref<=4294967295
 t:a.OTC=-1\/(1<=a.OTC/\a.OTC<=4294967295)
 c:GQ a.Communities=true
 l:Gm a.Ye=true
theorem VB.empty:VB eA:=⟨by decide,rfl,by decide,by decide,by decide,.inl rfl,rfl,rfl⟩
theorem VB.step {a a':YY}{x:YX}(v:VB a)(hd:x.Data.length<=1000000)(h:stepS a x=some a'):VB a':=by
 unfold stepS at h
 split at h
 ·obtain rfl:=X25 h
  exact v
 split at h
 rotate_left
 ·cases h
 unfold T8 at h
 split at h
 ·obtain⟨n,hn,rfl⟩:=Option.map_eq_some_iff.1 h
  unfold QI at hn
  split at hn
  ·rename_i hc
   obtain rfl:=X25 hn
   have:0<=G8 x.Data:=by rw[Kw (by omega)];omega
   exact⟨⟨by dsimp only;omega,hc.2⟩,v.p,v.n,v.m,v.r,v.t,v.c,v.l⟩
  cases hn
 split at h
 ·obtain⟨n,hn,rfl⟩:=Option.map_eq_some_iff.1 h
  unfold Tq at hn
  cases hq:rdL x.Data [] with
  | none=>rw[hq] at hn;cases hn
  | some p=>
   rw[hq,Option.bind_some] at hn
   have hs:=UT hd hq
   rw[TF (by omega) (by omega)] at hn
   split at hn
   ·obtain rfl:=X25 hn
    exact⟨v.o,‹_›,v.n,v.m,v.r,v.t,v.c,v.l⟩
   cases hn
 split at h
 ·obtain⟨n,hn,rfl⟩:=Option.map_eq_some_iff.1 h
  unfold Uj at hn
  split at hn
  ·obtain rfl:=X25 hn
   exact⟨v.o,v.p,TM ‹_›,v.m,v.r,v.t,v.c,v.l⟩
  cases hn
 split at h
 ·obtain⟨n,hn,rfl⟩:=Option.map_eq_some_iff.1 h
  unfold rd4 at hn
  split at hn
  ·obtain rfl:=X25 hn
   have:=Jl ‹_›
   exact⟨v.o,v.p,v.n,⟨by dsimp only;omega,by dsimp only;omega⟩,v.r,v.t,v.c,v.l⟩
  cases hn
 split at h
 ·obtain⟨n,hn,rfl⟩:=Option.map_eq_some_iff.1 h
  unfold rd4 at hn
  split at hn
  ·obtain rfl:=X25 hn
   have:=Jl ‹_›
   exact⟨v.o,v.p,v.n,v.m,⟨by dsimp only;omega,by dsimp only;omega⟩,v.t,v.c,v.l⟩
  cases hn
 split at h
 ·obtain⟨n,hn,rfl⟩:=Option.map_eq_some_iff.1 h
  unfold Up at hn
  split at hn
  ·rename_i hc
   obtain rfl:=X25 hn
   exact⟨v.o,v.p,v.n,v.m,v.r,v.t,Qp (Pn _) (by rw[NY];omega),v.l⟩
  cases hn
 split at h
 ·obtain⟨n,hn,rfl⟩:=Option.map_eq_some_iff.1 h
  unfold SA at hn
  split at hn
  ·rename_i hc
   obtain rfl:=X25 hn
   exact⟨v.o,v.p,v.n,v.m,v.r,v.t,v.c,Qi (OD _ (Pj _)) (by rw[Ln,ME];omega)⟩
  cases hn
 split at h
 ·obtain⟨n,hn,rfl⟩:=Option.map_eq_some_iff.1 h
  unfold Vz at hn
  split at hn
  ·rename_i hc
   obtain rfl:=X25 hn
   have:=Jl hc.1
   have:=hc.2
   exact⟨v.o,v.p,v.n,v.m,v.r,.inr ⟨by dsimp only;omega,by dsimp only;omega⟩,v.c,v.l⟩
  cases hn
 obtain rfl:=X25 h
 exact v
def byB (a:Addr):List UInt8:=(EZ a).getD []
theorem MV {a:Addr}(h:a.ok=true):EZ a=some (byB a)/\(byB a).length=a.L:=by
 obtain⟨r,h1,h2,_⟩:=FK h
 unfold byB
 rw[h1]
 exact⟨rfl,h2⟩
def OC (p:Yb):List UInt8:=Ab p.Len::(byB p.Addr).take ((p.Len.toNat+7)/8)
def An (six:Bool)(l:List Yb):List UInt8:=l.flatMap fun p=>if (p.Addr.V6==six)=true then OC p else []
theorem w_L (a:Addr):a.w=8*a.L/\a.L<=16:=by unfold Addr.w Addr.L;split<;>exact⟨rfl,by omega⟩
theorem NR {p:Yb}(h:Eb p):(OC p).length<=17:=by
 obtain⟨h1,h2,h3,_⟩:=h
 obtain⟨_,e2⟩:=MV h1
 have:=(w_L p.Addr).2
 unfold OC
 simp only[X12,X18]
 omega
theorem G9 (six:Bool)(p:Yb)(t:List Yb):An six (p::t)=(if (p.Addr.V6==six)=true then OC p else [])++An six t:=List.flatMap_cons
theorem CS {six:Bool} :∀{l:List Yb},(∀p∈l,Eb p)->(An six l).length<=17*l.length
 | [],_=>by simp[An]
 | p::t,h=>by
  have h1:=NR (h p (by simp))
  have h2:=CS (six:=six) (l:=t) fun q hq=>h q (X19 _ hq)
  rw[G9,X11,X12]
  split
  ·omega
  simp only[X13];omega
def lst0 (u:Yc):List YX:=if 0<u.Announce.length then wrS u.YY else []
def MH (u:Yc):List YX:=if 0<(An true u.Announce).length then G7 ltT (lst0 u) ⟨128,14,[0,2,1,16]++byB u.YY.Next++[0]++An true u.Announce⟩ else lst0 u
def Dy (u:Yc):List YX:=if 0<(An true u.Withdraw).length then G7 ltT (MH u) ⟨128,15,[0,2,1]++An true u.Withdraw⟩ else MH u
def two (n:Nat):List UInt8:=[Ab (Int.fdiv (n:Int) (2^(min (Int.toNat 8) 64))),Ab (n:Int)]
def HJ (u:Yc)(a:List UInt8):List UInt8:=two (An false u.Withdraw).length++An false u.Withdraw++two a.length++a++An false u.Announce
def GO (u:Yc):List UInt8×Int:=if (CB (Dy u)).2≠0 then ([],(CB (Dy u)).2) else (HJ u (CB (Dy u)).1,0)
structure GoodU (u:Yc):Prop where
 w:u.Withdraw.length<=1000
 n:u.Announce.length<=1000
 gw :∀p∈u.Withdraw,Eb p
 ga :∀p∈u.Announce,Eb p
 a:0<u.Announce.length->VA u.YY/\(wrS u.YY).length<=16/\∀x∈wrS u.YY,x.Data.length<=768
theorem WB {a:Addr}(h:a.ok=true){j:Nat}(hj:j<a.L):(byB a)[j]?=some (JL a (a.L-1-j)):=by
 obtain⟨r,h1,h2,h3⟩:=FK h
 unfold byB
 rw[h1]
 exact h3 j hj
theorem XD (n:Nat):Int.fdiv (n:Int) (2^(min (Int.toNat 8) 64))=((n/256:Nat):Int):=by
 have:min (Int.toNat 8) 64=8:=rfl
 have e5:((2:Int)^8)=((2^8:Nat):Int):=by simp
 rw[this,e5,Int.fdiv_eq_ediv_of_nonneg _ (Int.natCast_nonneg _),Int.natCast_ediv]
def sk (x:YX):Bool:=x.Type_ != 14&&x.Type_ != 15
theorem XR {x:YX}(h:sk x=false):x.Type_=14\/x.Type_=15:=by
 unfold sk at h
 simp only[Bool.and_eq_false_iff,bne_eq_false_iff_eq] at h
 exact h
theorem Wj {x:YX}(h:sk x=false):unk x.Type_=false/\fl x.Type_=0:=by
 rcases XR h with e | e<;>rw[e]<;>decide
theorem M3 {p:YX->Bool}{l:List YX}{x:YX}(h:p x=false):(G7 ltT l x).filter p=l.filter p:=by
 unfold G7
 rw[List.filter_append,List.filter_cons,if_neg (by rw[h];decide),<- List.filter_append,List.takeWhile_append_dropWhile]
def x14 (u:Yc):YX:=⟨128,14,[0,2,1,16]++byB u.YY.Next++[0]++An true u.Announce⟩
def x15 (u:Yc):YX:=⟨128,15,[0,2,1]++An true u.Withdraw⟩
theorem SV (u:Yc):MH u=if 0<(An true u.Announce).length then G7 ltT (lst0 u) (x14 u) else lst0 u:=rfl
theorem SK (u:Yc):Dy u=if 0<(An true u.Withdraw).length then G7 ltT (MH u) (x15 u) else MH u:=rfl
theorem Nn {six:Bool} :∀{l:List Yb},An six l=[]↔l.filter (fun p=>p.Addr.V6==six)=[]
 | []=>by simp[An]
 | p::t=>by
  rw[G9,List.filter_cons]
  by_cases h6:(p.Addr.V6==six)=true
  ·rw[if_pos h6,if_pos h6]
   unfold OC
   simp
  rw[if_neg h6,if_neg h6,List.nil_append]
  exact Nn
theorem S9 {six:Bool}{l:List Yb}:0<(An six l).length↔l.filter (fun p=>p.Addr.V6==six)≠[]:=by
 rw[List.length_pos_iff,ne_eq,Nn]
structure WrU (u:Yc):Prop where
 g:GoodU u
 w:u.Withdraw.length<=256
 n:u.Announce.length<=256
 s :∀p∈u.Announce,p.Addr.V6=u.YY.Next.V6
 o:u.Announce≠[]->u.YY.Origin≠-1/\u.YY.Next≠zAd
theorem QL {a:YY}(v:VA a){x:YX}(h:x∈wrS a):sk x=true/\(x.Flags=64\/x.Flags=128\/x.Flags=192\/x.Flags=224)/\0<=x.Type_/\x.Type_<=255:=by
 rcases (Qj v.O).1 h with ⟨k,h⟩|h
 ·obtain⟨b,hb,rfl⟩:=GP.1 h
  rcases HC k with ⟨e,f⟩|⟨e,f⟩|⟨e,f⟩|⟨e,f⟩|⟨e,f⟩|⟨e,f⟩|⟨e,f⟩|⟨e,f⟩|⟨_,_,_,_,_,_,_,_,f⟩
  iterate 8
   ·subst e
    unfold sk
    dsimp only
    rw[f]
    decide
  rw[MU f] at hb
  cases hb
 obtain⟨h1,h2,h3,h4,_⟩:=Fo v.O h
 refine⟨?_,.inr (.inr (.inr h4)),by omega,by omega⟩
 cases hs:sk x with
 | true=>rfl
 | false=>rw[(Wj hs).1] at h1;cases h1
theorem VP {l:List YX}(h :∀x∈l,sk x=true):Oo l 14=[]/\Oo l 15=[]/\l.filter sk=l:=by
 refine⟨?_,?_,List.filter_eq_self.2 h⟩
 ·unfold Oo
  rw[List.filter_eq_nil_iff]
  intro x hx q
  have:=h x hx
  unfold sk at this
  simp only[X27,bne_iff_ne] at this
  exact this.1 (by simpa using q)
 unfold Oo
 rw[List.filter_eq_nil_iff]
 intro x hx q
 have:=h x hx
 unfold sk at this
 simp only[X27,bne_iff_ne] at this
 exact this.2 (by simpa using q)
def Fq (p:Yb):Bool:=(Dk p).getD false
theorem I3 (p:Yb):Dk p=some (Fq p)/\(Fq p=true↔Eb p):=by
 obtain⟨b,h1,h2⟩:=MG p
 unfold Fq
 rw[h1]
 exact⟨rfl,h2⟩
def isE (a:YY):Bool:=(C9 a eA).getD false
theorem Um (a:YY):C9 a eA=some (isE a):=by
 obtain⟨b,h⟩:=(inferInstance:Tt (C9 a eA)).h
 unfold isE
 rw[h];rfl
def RG (a:YY)(p:Yb):Bool:=(p.Addr.V6==a.Next.V6)&&((a.Origin != -1)&&(!(Addr.eqd a.Next zAd)&&HD a))
def U2 (u:Yc):Bool:=((GO u).2==0)&&decide ((GO u).1.length<=4077)
def E8 (u:Yc):Bool:=decide (u.Withdraw.length<=256)&&(decide (u.Announce.length<=256)&&((u.Withdraw++u.Announce).all Fq&&((!(decide (u.Announce=[])) || isE u.YY)&&(u.Announce.all (RG u.YY)&&U2 u))))
theorem TO {u:Yc}(h:E8 u=true)(hW :∀{a:YY},VA a->(wrS a).length<=16):WrU u/\U2 u=true/\(u.Announce=[]->isE u.YY=true):=by
 unfold E8 at h
 simp only[X27,decide_eq_true_eq] at h
 obtain⟨h1,h2,h3,h4,h5,h6⟩:=h
 have hgood :∀p∈u.Withdraw++u.Announce,Eb p:=fun p hp=>(I3 p).2.1 (List.all_eq_true.1 h3 p hp)
 have hfit :∀p∈u.Announce,p.Addr.V6=u.YY.Next.V6/\u.YY.Origin≠-1/\u.YY.Next≠zAd/\VA u.YY:=fun p hp=>by
  have:=List.all_eq_true.1 h5 p hp
  unfold RG at this
  simp only[X27,beq_iff_eq,bne_iff_ne,Bool.not_eq_true'] at this
  obtain⟨a1,a2,a3,a4⟩:=this
  exact⟨a1,a2,(fun q=>by rw[q,(Addr.eqd_iff _ _).2 rfl] at a3;cases a3),ON.1 a4⟩
 refine⟨⟨⟨by omega,by omega,fun p hp=>hgood p (List.mem_append_left _ hp),fun p hp=>hgood p (List.mem_append_right _ hp),fun q=>?_⟩,h1,h2,fun p hp=>(hfit p hp).1,fun q=>?_⟩,h6,fun q=>?_⟩
 ·obtain⟨p,hp⟩:=List.exists_mem_of_ne_nil _ (List.length_pos_iff.1 q)
  have v:=(hfit p hp).2.2.2
  exact⟨v,hW v,fun x hx=>Ri v hx⟩
 ·obtain⟨p,hp⟩:=List.exists_mem_of_ne_nil _ q
  exact⟨(hfit p hp).2.1,(hfit p hp).2.2.1⟩
 rw[decide_eq_true q] at h4
 simpa using h4
def encS (u:Yc):List UInt8×Int:=if E8 u=true then GO u else ([],1)
def x1 (o:UInt8):YX:=⟨64,1,[o]⟩
theorem LP {l:List YX}{x:YX}(h:l.Pairwise fun a b=>ltT a b=true)(hx:Oo l x.Type_=[]):(G7 ltT l x).Pairwise fun a b=>ltT a b=true:=by
 have hne :∀y∈l,y.Type_≠x.Type_:=by
  unfold Oo at hx
  rw[List.filter_eq_nil_iff] at hx
  exact fun y hy e=>hx y hy (by rw[beq_iff_eq];exact e)
 have h0:=h
 rw[<- List.takeWhile_append_dropWhile (p:=(ltT · x)) (l:=l),List.pairwise_append] at h
 obtain⟨h1,h2,h3⟩:=h
 have hd :∀b∈l.dropWhile (ltT · x),ltT x b=true:=by
  cases hl:l.dropWhile (ltT · x) with
  | nil=>intro b hb;simp at hb
  | cons y t=>
   have hy:ltT y x=false:=by
    have:=List.head?_dropWhile_not (ltT · x) l
    rw[hl] at this
    simpa using this
   have hyl:y∈l:=by
    have:y∈l.dropWhile (ltT · x):=by rw[hl];simp
    exact List.dropWhile_subset _ this
   have hxy:ltT x y=true:=by
    have:=hne y hyl
    unfold ltT at hy ⊢
    rw[decide_eq_false_iff_not] at hy
    exact decide_eq_true (by omega)
   rw[hl] at h2
   intro b hb
   rcases List.mem_cons.1 hb with rfl | hb
   ·exact hxy
   exact Tu _ _ _ hxy ((List.pairwise_cons.1 h2).1 b hb)
 unfold G7
 rw[List.pairwise_append]
 refine⟨h1,List.pairwise_cons.2 ⟨hd,h2⟩,fun a ha b hb=>?_⟩
 rcases List.mem_cons.1 hb with e | hb
 ·rw[e];exact Fb (ltT · x) ha
 exact h3 a ha b hb
def raw (u:Yc):List YX:=lst0 u++((if 0<(An true u.Announce).length then [x14 u] else [])++if 0<(An true u.Withdraw).length then [x15 u] else [])
theorem PC {u:Yc}(h:WrU u):(Dy u).Pairwise (fun a b=>ltT a b=true)/\∀x,x∈Dy u↔x∈raw u:=by
 have h0:(lst0 u).Pairwise (fun a b=>ltT a b=true)/\Oo (lst0 u) 14=[]/\Oo (lst0 u) 15=[]:=by
  unfold lst0
  by_cases ha:0<u.Announce.length
  ·rw[if_pos ha]
   obtain⟨v,_,_⟩:=h.g.a ha
   obtain⟨a14,a15,_⟩:=VP fun x hx=>(QL v hx).1
   exact⟨(Jq v.O).imp fun {p q} h=>by rw[R9] at h;exact h,a14,a15⟩
  rw[if_neg ha]
  exact⟨.nil,rfl,rfl⟩
 obtain⟨s0,a14,a15⟩:=h0
 have h1:(MH u).Pairwise (fun a b=>ltT a b=true)/\Oo (MH u) 15=[]/\∀x,x∈MH u↔x∈lst0 u\/x∈(if 0<(An true u.Announce).length then [x14 u] else []):=by
  rw[SV]
  by_cases hc:0<(An true u.Announce).length
  ·rw[if_pos hc,if_pos hc]
   exact⟨LP s0 a14,(M3 (x:=x14 u) rfl).trans a15,fun x=>by rw[Fp,X14]⟩
  rw[if_neg hc,if_neg hc]
  exact⟨s0,a15,fun x=>by simp⟩
 obtain⟨s1,b15,m1⟩:=h1
 rw[SK]
 unfold raw
 by_cases hc:0<(An true u.Withdraw).length
 ·rw[if_pos hc,if_pos hc]
  refine⟨LP s1 b15,fun x=>?_⟩
  rw[Fp,m1,X23,X23,X14,or_assoc]
 rw[if_neg hc,if_neg hc]
 refine⟨s1,fun x=>?_⟩
 rw[m1,List.append_nil,X23]
theorem Ub {u:Yc}(h:WrU u){cmp:YX->YX->Option Int}(hc :∀a b,cmp a b=some (Dx (F4 a) (F4 b)))(hl:(raw u).length<=1000000)(hd:TP (raw u)):D9 cmp (raw u)=some (Dy u):=by
 obtain⟨s,m⟩:=PC h
 obtain⟨r,h1,h2,h3⟩:=R2 F7 hc (l:=raw u) (by omega)
 rw[h1]
 congr 1
 refine SQ F7 (OG F7 h3 ?_) (s.imp fun {a b} q=>by rw[R9];exact q) fun x=>?_
 ·exact ((h2.pairwise_iff fun h e=>h e.symm).2 hd).imp fun {a b} q e=>q (by simpa[F4] using e)
 rw[h2.mem_iff,m]
theorem UY {u:Yc}(h:WrU u):TP (raw u):=by
 have h0:TP (lst0 u)/\∀x∈lst0 u,sk x=true:=by
  unfold lst0
  by_cases ha:0<u.Announce.length
  ·rw[if_pos ha]
   obtain⟨v,_,_⟩:=h.g.a ha
   exact⟨Vt v.O,fun x hx=>(QL v hx).1⟩
  rw[if_neg ha]
  exact⟨.nil,fun x hx=>by cases hx⟩
 obtain⟨d0,k0⟩:=h0
 have hk :∀x∈lst0 u,x.Type_≠14/\x.Type_≠15:=fun x hx=>by
  have:=k0 x hx
  unfold sk at this
  simpa using this
 unfold raw TP
 rw[List.pairwise_append]
 refine⟨d0,?_,fun a ha b hb=>?_⟩
 ·split<;>split<;>simp[x14,x15]
 have k:=hk a ha
 rcases X23.1 hb with hb | hb
 ·split at hb
  ·rw[X14] at hb
   subst hb
   exact k.1
  cases hb
 split at hb
 ·rw[X14] at hb
  subst hb
  exact k.2
 cases hb
theorem GT {α:Type}(l:List α):((l.length:Int) != (([]:List α).length:Int))=!decide (l=[]):=by
 cases l with
 | nil=>rfl
 | cons x t=>
  rw[decide_eq_false (by simp),Bool.not_false,bne_iff_ne]
  simp only[X12,X13]
  omega
theorem XT (l:List Yd):DY l []=some (decide (l=[])):=by
 unfold DY
 rw[GT]
 cases l with
 | nil=>rfl
 | cons x t=>rw[decide_eq_false (by simp)];rfl
theorem Xp (l:List YZ):Da l []=some (decide (l=[])):=by
 unfold Da
 rw[GT]
 cases l with
 | nil=>rfl
 | cons x t=>rw[decide_eq_false (by simp)];rfl
theorem XL (l:List Ye):Ba l []=some (decide (l=[])):=by
 unfold Ba
 rw[GT]
 cases l with
 | nil=>rfl
 | cons x t=>rw[decide_eq_false (by simp)];rfl
theorem XQ (l:List YX):Bm l []=some (decide (l=[])):=by
 unfold Bm
 rw[GT]
 cases l with
 | nil=>rfl
 | cons x t=>rw[decide_eq_false (by simp)];rfl
theorem Rk (a:YY):isE a=((a.Origin==-1)&&(decide (a.Path=[])&&(Addr.eqd a.Next zAd&&((a.MED==-1)&&((a.Pref==-1)&&((a.OTC==-1)&&(decide (a.Communities=[])&&(decide (a.Ye=[])&&decide (a.Other=[]))))))))):=by
 have h:=Um a
 unfold C9 at h
 have e :∀x:Bool,cond true x false=x:=fun x=>rfl
 rw[AG,show eA.Path=[] from rfl,show eA.Communities=[] from rfl,show eA.Ye=[] from rfl,show eA.Other=[] from rfl,XT,AA,Xp,AA,XL,AA,XQ,AA] at h
 have h2:(if (a.Origin==-1)=true then if decide (a.Path=[])=true then if Addr.eqd a.Next zAd=true then if (a.MED==-1)=true then if (a.Pref==-1)=true then if (a.OTC==-1)=true then if decide (a.Communities=[])=true then if decide (a.Ye=[])=true then some (decide (a.Other=[])) else some false else some false else some false else some false else some false else some false else some false else some false)=some (isE a):=h
 generalize isE a=r at h2 ⊢
 generalize (a.Origin==-1)=c1 at h2 ⊢
 generalize decide (a.Path=[])=c2 at h2 ⊢
 generalize Addr.eqd a.Next zAd=c3 at h2 ⊢
 generalize (a.MED==-1)=c4 at h2 ⊢
 generalize (a.Pref==-1)=c5 at h2 ⊢
 generalize (a.OTC==-1)=c6 at h2 ⊢
 generalize decide (a.Communities=[])=c7 at h2 ⊢
 generalize decide (a.Ye=[])=c8 at h2 ⊢
 generalize decide (a.Other=[])=c9 at h2 ⊢
 cases c1<;>cases c2<;>cases c3<;>cases c4<;>cases c5<;>cases c6<;>cases c7<;>cases c8<;>simpa using h2.symm
theorem O7 (a:YY):isE a=true↔a=eA:=by
 constructor
 ·intro h
  rw[Rk] at h
  simp only[X27,beq_iff_eq,decide_eq_true_eq] at h
  obtain⟨h1,h2,h3,h4,h5,h6,h7,h8,h9⟩:=h
  have h3:=(Addr.eqd_iff _ _).1 h3
  obtain⟨a1,a2,a3,a4,a5,a6,a7,a8,a9⟩:=a
  dsimp only at *
  subst h1 h2 h3 h4 h5 h6 h7 h8 h9
  rfl
 rintro rfl
 have:=Um eA
 rw[Si] at this
 exact (X25 this).symm
theorem W7:VA eA:=ON.1 (by decide)
theorem Wy:wrS eA=[]:=by
 unfold wrS
 rw[List.flatMap_eq_nil_iff]
 intro k _
 have:G eA (k:Int)=none:=by
  unfold G
  have n1:¬ (eA.Origin≠-1):=fun q=>q rfl
  have n2:¬ (eA.Origin≠-1\/eA.Path≠[]):=fun q=>q.elim (fun q=>q rfl) fun q=>q rfl
  have n3:¬ (K1 eA=true):=by decide
  have n4:¬ (eA.MED≠-1):=fun q=>q rfl
  have n5:¬ (eA.Pref≠-1):=fun q=>q rfl
  have n6:¬ (eA.Communities≠[]):=fun q=>q rfl
  have n7:¬ (eA.Ye≠[]):=fun q=>q rfl
  have n8:¬ (eA.OTC≠-1):=fun q=>q rfl
  rw[if_neg n1,if_neg n2,if_neg n3,if_neg n4,if_neg n5,if_neg n6,if_neg n7,if_neg n8]
  simp only[ite_self]
 unfold ent
 rw[this]
 rfl
theorem WV {x y:Nat}(hx:x<2^56):x ||| 2^56*y=2^56*y+x:=by
 rw[Nat.or_comm]
 exact (Nat.two_pow_add_eq_or_of_lt hx y).symm
theorem UE (lo hi:UInt64):(AL ((BitVec.ofInt 64 ((AL (Int.fdiv (lo.toNat:Int) (2^(min (Int.toNat 8) 64)))).toNat:Int) ||| BitVec.ofInt 64 ((AL ((hi.toNat:Int)*(2^(min (Int.toNat 56) 64)))).toNat:Int)).toNat:Int)).toNat=2^56*(hi.toNat%256)+lo.toNat/256/\
  (AL (Int.fdiv (hi.toNat:Int) (2^(min (Int.toNat 8) 64)))).toNat=hi.toNat/256:=by
 have hl:=lo.toNat_lt
 have hh:=hi.toNat_lt
 have e1:Int.fdiv (lo.toNat:Int) (2^(min (Int.toNat 8) 64))=((lo.toNat/256:Nat):Int):=fd lo.toNat 8
 have e2:Int.fdiv (hi.toNat:Int) (2^(min (Int.toNat 8) 64))=((hi.toNat/256:Nat):Int):=fd hi.toNat 8
 have e3:((hi.toNat:Int)*(2^(min (Int.toNat 56) 64)))=((hi.toNat*2^56:Nat):Int):=by
  rw[Int.natCast_mul]
  rfl
 rw[e1,e2,e3,A4,A4,A4,A4]
 have f1:(UInt64.ofNat (lo.toNat/256)).toNat=lo.toNat/256:=by rw[UInt64.toNat_ofNat'];omega
 have f2:(UInt64.ofNat (hi.toNat/256)).toNat=hi.toNat/256:=by rw[UInt64.toNat_ofNat'];omega
 have f3:(UInt64.ofNat (hi.toNat*2^56)).toNat=2^56*(hi.toNat%256):=by rw[UInt64.toNat_ofNat'];omega
 refine⟨?_,f2⟩
 rw[f1,f3,BitVec.ofInt_natCast,BitVec.ofInt_natCast,BitVec.toNat_or,BitVec.toNat_ofNat,BitVec.toNat_ofNat,Nat.mod_eq_of_lt (by omega),Nat.mod_eq_of_lt (by omega),WV (by omega),UInt64.toNat_ofNat']
 omega
theorem Vs (x:Addr)(b:Bool):(Addr.n ⟨b,AL (Int.fdiv (x.Hi.toNat:Int) (2^(min (Int.toNat 8) 64))),AL ((BitVec.ofInt 64 ((AL (Int.fdiv (x.Lo.toNat:Int) (2^(min (Int.toNat 8) 64)))).toNat:Int) ||| BitVec.ofInt 64 ((AL ((x.Hi.toNat:Int)*(2^(min (Int.toNat 56) 64)))).toNat:Int)).toNat:Int)⟩)=x.n/256:=by
 obtain⟨s1,s2⟩:=UE x.Lo x.Hi
 unfold Addr.n
 rw[s1,s2]
 have hl:=x.Lo.toNat_lt
 omega
theorem UM (x:Addr):Ab (x.Lo.toNat:Int)=UInt8.ofNat x.n:=by
 rw[Bj]
 apply RX
 unfold Addr.n
 omega
theorem Hl {a:Addr}(h:a.ok=true):Ar a=some (byB a):=by
 have hB:=(MV h).2
 have hL:a.L=16\/a.L=4:=by unfold Addr.L;split<;>omega
 unfold Ar
 rw[DU,AA,h,if_neg (by decide),AG]
 have key :∀n:Int,n=a.L->(Option.bind (chk (0<=n/\n<=n/\n<=1048576)) fun _=>
  AH (τ:=(List UInt8)) (fun k4=>
   Cc (σ:=Int×Addr×(List UInt8)) (fun next5 (v6,v7,v8)=>
    if (decide (v6 ≥ 0)) then
     Option.bind (geti v8 v6) fun v9=>
     Option.bind (seti v8 v6 (Ab (v7.Lo.toNat:Int))) fun v10=>
     next5 ((AT (v6-1)),(⟨v7.V6,(AL (Int.fdiv (v7.Hi.toNat:Int) (2^(min (Int.toNat 8) 64)))),(AL ((BitVec.ofInt 64 ((AL (Int.fdiv (v7.Lo.toNat:Int) (2^(min (Int.toNat 8) 64)))).toNat:Int) ||| BitVec.ofInt 64 ((AL ((v7.Hi.toNat:Int)*(2^(min (Int.toNat 56) 64)))).toNat:Int)).toNat:Int))⟩:Addr),v10)
    else
     k4 v8
   ) fuel ((AT (n-1)),a,(List.replicate (Int.toNat n) (0:UInt8)))
  ) fun v11=>
  some v11)=some (byB a):=by
  intro n hn
  have ck:chk (0<=n/\n<=n/\n<=1048576)=some ():=by unfold chk;rw[if_pos (by omega)]
  rw[ck,AA,AG]
  refine (EI (fun s:Int×Addr×List UInt8=>∃j:Nat,j<=a.L/\s.1=(a.L:Int)-1-(j:Int)/\s.2.1.n=a.n/256^j/\s.2.2.length=a.L/\∀k,a.L-j<=k->k<a.L->s.2.2[k]?=some (JL a (a.L-1-k))) (fun s=>(s.1+1).toNat) (fun s=>some (byB a)) ?_ fuel (AT (n-1),a,List.replicate (Int.toNat n) (0:UInt8)) ?_ ?_).trans rfl
  ·rintro next ⟨i,x,l⟩ ⟨j,hj,h1,h2,h3,h4⟩ hk
   dsimp only at h1 h2 h3 h4 ⊢
   subst h1
   rcases (by omega:j=a.L\/j<a.L) with e | hlt
   ·rw[if_neg (by simp only[decide_eq_true_eq];omega)]
    congr 1
    apply List.ext_getElem?
    intro k
    by_cases q:k<a.L
    ·rw[h4 k (by omega) q,WB h q]
    rw[List.getElem?_eq_none (by omega),List.getElem?_eq_none (by omega)]
   obtain⟨y,hy,_⟩:=Ok.geti (l:=l) (i:=(a.L:Int)-1-(j:Int)) (by omega)
   have hs:seti l ((a.L:Int)-1-(j:Int)) (Ab (x.Lo.toNat:Int))=some (l.set (a.L-1-j) (UInt8.ofNat x.n)):=by
    unfold seti
    rw[if_pos (by omega),UM]
    congr 2
    omega
   rw[if_pos (by simp only[decide_eq_true_eq];omega),hy,AA,hs,AA,AZ (by omega)]
   refine hk _ ⟨j+1,by omega,by dsimp only;omega,?_,by dsimp only;rw[X21];exact h3,?_⟩ (by dsimp only;omega)
   ·dsimp only
    rw[Vs,h2,Nat.div_div_eq_div_mul,Nat.pow_succ]
   dsimp only
   intro k k1 k2
   rw[List.getElem?_set]
   by_cases q:a.L-1-j=k
   ·rw[if_pos q,if_pos (by omega),<- q]
    have e2:a.L-1-(a.L-1-j)=j:=by omega
    rw[e2,h2]
    unfold JL
    rw[Nat.pow_mul]
   rw[if_neg q]
   exact h4 k (by omega) k2
  ·refine⟨0,by omega,by dsimp only;rw[AZ (by omega)];omega,by simp,?_,fun k k1 k2=>by omega⟩
   dsimp only
   rw[X20]
   omega
  dsimp only
  rw[AZ (by omega)]
  exact Et (by omega)
 unfold Addr.L at key
 by_cases h6:a.V6=true
 ·rw[if_pos h6]
  rw[if_pos h6] at key
  exact key 16 rfl
 rw[if_neg h6]
 rw[if_neg h6] at key
 exact key 4 rfl
theorem WP (d:List UInt8)(h:d.length<=2048):(CB [⟨128,15,d⟩]).2=0/\(CB [⟨128,15,d⟩]).1=FV [⟨128,15,d⟩]\/2044<d.length:=by
 by_cases q:2044<d.length
 ·exact .inr q
 left
 have hj:FV [⟨128,15,d⟩]=ND ⟨128,15,d⟩:=by unfold FV;rw[List.flatMap_cons,List.flatMap_nil,List.append_nil]
 have hl:=QD ⟨128,15,d⟩
 have hk:([⟨128,15,d⟩]:List YX).all okJ=true:=by
  unfold okJ
  simp only[List.all_cons,List.all_nil,Bool.and_true]
  simp
  omega
 dsimp only at hl
 unfold CB
 rw[if_pos hk,hj,if_neg (by omega)]
 exact⟨rfl,rfl⟩
theorem WR {l:List Yb}(h :∀p∈l,Eb p)(hl:l.length<=40):E8 ⟨l,eA,[]⟩=true:=by
 have c1:=CS (six:=true) h
 have c2:=CS (six:=false) h
 have hlen :∀a:List UInt8,(HJ ⟨l,eA,[]⟩ a).length=4+(An false l).length+a.length:=fun a=>by
  unfold HJ
  have t :∀n,(two n).length=2:=fun n=>rfl
  have z:(An false ([]:List Yb)).length=0:=rfl
  simp only[X11,t]
  rw[z]
  omega
 have e2:Dy ⟨l,eA,[]⟩=if 0<(An true l).length then [x15 ⟨l,eA,[]⟩] else []:=by
  rw[SK,SV]
  rfl
 have hp:(GO ⟨l,eA,[]⟩).2=0/\(GO ⟨l,eA,[]⟩).1.length<=4077:=by
  unfold GO
  rw[e2]
  split
  ·have hd:(x15 ⟨l,eA,[]⟩).Data.length=3+(An true l).length:=by unfold x15;simp only[X11,X12,X13]
   have hx:x15 ⟨l,eA,[]⟩=⟨128,15,(x15 ⟨l,eA,[]⟩).Data⟩:=rfl
   rw[hx]
   rcases WP (x15 ⟨l,eA,[]⟩).Data (by omega) with ⟨j1,j2⟩|q
   ·rw[j1,if_neg (by decide)]
    refine⟨rfl,?_⟩
    dsimp only
    rw[hlen,j2]
    have:=QD (x15 ⟨l,eA,[]⟩)
    have e:FV [⟨128,15,(x15 ⟨l,eA,[]⟩).Data⟩]=ND (x15 ⟨l,eA,[]⟩):=by unfold FV;rw[List.flatMap_cons,List.flatMap_nil,List.append_nil];rfl
    rw[e]
    omega
   omega
  have j:CB []=([],0):=rfl
  rw[j,if_neg (by decide)]
  refine⟨rfl,?_⟩
  dsimp only
  rw[hlen,X13]
  omega
 have hE:isE eA=true:=(O7 eA).2 rfl
 unfold E8 U2
 rw[hp.1]
 dsimp only
 rw[decide_eq_true (p:=l.length<=256) (by omega),List.append_nil,List.all_eq_true.2 (fun p hp=>(I3 p).2.2 (h p hp)),hE,decide_eq_true (p:=(GO ⟨l,eA,[]⟩).1.length<=4077) hp.2]
 rfl
def WrJ {ρ:Type}(a:YY)(K:Int×List YX->Option ρ):Option ρ:=
 AH (τ:=Int×(List YX)) (fun k1=>
  Option.bind (BZ a) fun v2=>
  if (!v2) then
   k1 (1,[])
  else
   AH (τ:=(List YX)) (fun k3=>
    AH (τ:=(List YX)) (fun k4=>
     if (a.Origin != (-1)) then
      Option.bind (some (Option.getD (B8 BE 1) 0)) fun v5=>
      Option.bind (apnd (α:=YX) 40 [] ([(⟨v5,1,([(Ab a.Origin)]:List UInt8)⟩:YX)]:List YX)) fun _=>
      k4 ([(⟨v5,1,([(Ab a.Origin)]:List UInt8)⟩:YX)]:List YX)
     else
      k4 []
    ) fun v6=>
    k3 v6
   ) fun v7=>
   AH (τ:=(List YX)) (fun k8=>
    if (a.Origin != (-1)) then
     Option.bind (A0 a.Path) fun v9=>
     AH (τ:=(List YX)) (fun k10=>
      Option.bind (some (Option.getD (B8 BE 2) 0)) fun v11=>
      Option.bind (apnd (α:=YX) 40 v7 ([(⟨v11,2,v9⟩:YX)]:List YX)) fun v12=>
      k10 v12
     ) fun v13=>
     k8 v13
    else
     Option.bind (A0 a.Path) fun v14=>
     AH (τ:=(List YX)) (fun k15=>
      AH (τ:=(List YX)) (fun k16=>
       if (cond false true (decide ((a.Path.length:Int) > 0))) then
        Option.bind (some (Option.getD (B8 BE 2) 0)) fun v17=>
        Option.bind (apnd (α:=YX) 40 v7 ([(⟨v17,2,v14⟩:YX)]:List YX)) fun v18=>
        k16 v18
       else
        k16 v7
      ) fun v19=>
      k15 v19
     ) fun v20=>
     k8 v20
   ) fun v21=>
   AH (τ:=(List YX)) (fun k22=>
    if (!a.Next.V6) then
     Option.bind (Ar a.Next) fun v23=>
     AH (τ:=(List YX)) (fun k24=>
      AH (τ:=(List YX)) (fun k25=>
       if (cond true (!(Addr.eqd a.Next (⟨false,(0:UInt64),(0:UInt64)⟩:Addr))) false) then
        Option.bind (some (Option.getD (B8 BE 3) 0)) fun v26=>
        Option.bind (apnd (α:=YX) 40 v21 ([(⟨v26,3,v23⟩:YX)]:List YX)) fun v27=>
        k25 v27
       else
        k25 v21
      ) fun v28=>
      k24 v28
     ) fun v29=>
     k22 v29
    else
     Option.bind (Ar a.Next) fun v30=>
     AH (τ:=Unit) (fun k31=>
      k31 ()
     ) fun _=>
     k22 v21
   ) fun v32=>
   Option.bind (Ao ([a.MED]:List Int)) fun v33=>
   AH (τ:=(List YX)) (fun k34=>
    AH (τ:=(List YX)) (fun k35=>
     if (a.MED != (-1)) then
      Option.bind (some (Option.getD (B8 BE 4) 0)) fun v36=>
      Option.bind (apnd (α:=YX) 40 v32 ([(⟨v36,4,v33⟩:YX)]:List YX)) fun v37=>
      k35 v37
     else
      k35 v32
    ) fun v38=>
    k34 v38
   ) fun v39=>
   Option.bind (Ao ([a.Pref]:List Int)) fun v40=>
   AH (τ:=(List YX)) (fun k41=>
    AH (τ:=(List YX)) (fun k42=>
     if (a.Pref != (-1)) then
      Option.bind (some (Option.getD (B8 BE 5) 0)) fun v43=>
      Option.bind (apnd (α:=YX) 40 v39 ([(⟨v43,5,v40⟩:YX)]:List YX)) fun v44=>
      k42 v44
     else
      k42 v39
    ) fun v45=>
    k41 v45
   ) fun v46=>
   Option.bind (A7 a.Communities) fun v47=>
   AH (τ:=(List YX)) (fun k48=>
    AH (τ:=(List YX)) (fun k49=>
     if (decide ((a.Communities.length:Int) > 0)) then
      Option.bind (some (Option.getD (B8 BE 8) 0)) fun v50=>
      Option.bind (apnd (α:=YX) 40 v46 ([(⟨v50,8,v47⟩:YX)]:List YX)) fun v51=>
      k49 v51
     else
      k49 v46
    ) fun v52=>
    k48 v52
   ) fun v53=>
   Option.bind (By a.Ye) fun v54=>
   AH (τ:=(List YX)) (fun k55=>
    AH (τ:=(List YX)) (fun k56=>
     if (decide ((a.Ye.length:Int) > 0)) then
      Option.bind (some (Option.getD (B8 BE 32) 0)) fun v57=>
      Option.bind (apnd (α:=YX) 40 v53 ([(⟨v57,32,v54⟩:YX)]:List YX)) fun v58=>
      k56 v58
     else
      k56 v53
    ) fun v59=>
    k55 v59
   ) fun v60=>
   Option.bind (Ao ([a.OTC]:List Int)) fun v61=>
   AH (τ:=(List YX)) (fun k62=>
    AH (τ:=(List YX)) (fun k63=>
     if (a.OTC != (-1)) then
      Option.bind (some (Option.getD (B8 BE 35) 0)) fun v64=>
      Option.bind (apnd (α:=YX) 40 v60 ([(⟨v64,35,v61⟩:YX)]:List YX)) fun v65=>
      k63 v65
     else
      k63 v60
    ) fun v66=>
    k62 v66
   ) fun v67=>
   AH (τ:=(List YX)) (fun k68=>
    Ah (σ:=(List YX)) (fun v69=>
     k68 v69
    ) (fun next70 (x71:YX) i72 v69=>
     Option.bind (A1 x71.Data) fun v73=>
     Option.bind (apnd (α:=YX) 40 v69 ([{ x71 with Data:=v73 }]:List YX)) fun v74=>
     next70 v74
    ) a.Other 0 v67
   ) fun v75=>
   Option.bind (D9 BW v75) fun v76=>
   k1 (0,v76)
 ) K
theorem Q1 {a:YY}(v:VA a){ρ:Type}(K:Int×List YX->Option ρ):WrJ a K=K (0,wrS a):=by
 have hs:=Hu v.p
 have hc:=(GX.1 v.c)
 have hl:=(GW.1 v.l).2.2
 unfold WrJ
 rw[AG,Ll v.sm,AA,ON.2 v,if_neg (by decide)]
 have s1 :∀{ρ:Type} (q:List YX->Option ρ),AH (τ:=(List YX)) (fun k2=>
   AH (τ:=(List YX)) (fun k3=>
    if (a.Origin != (-1))=true then
     Option.bind (some (Option.getD (B8 BE 1) 0)) fun v4=>
     Option.bind (apnd (α:=YX) 40 [] ([(⟨v4,1,([(Ab a.Origin)]:List UInt8)⟩:YX)]:List YX)) fun _=>
     k3 ([(⟨v4,1,([(Ab a.Origin)]:List UInt8)⟩:YX)]:List YX)
    else
     k3 []
   ) fun v5=>
   k2 v5
  ) q=q (ent a 1):=by
  intro ρ q
  have hG:G a 1=if a.Origin≠-1 then some [Ab a.Origin] else none:=rfl
  unfold ent
  rw[AG,AG,Ih,hG]
  by_cases h:a.Origin=-1
  ·rw[if_neg (by simp[h]),if_neg (by simp[h])]
  rw[if_pos (by simpa using h),if_pos h,AA,AY (by decide) (by simp),AA]
 rw[s1]
 have hpath:A0 a.Path=some (L0 a.Path):=TZ (by omega)
 have s2 :∀{ρ:Type} (w:List YX) (hw:w.length<=1) (q:List YX->Option ρ),AH (τ:=(List YX)) (fun k7=>
   if (a.Origin != (-1))=true then
    Option.bind (A0 a.Path) fun v8=>
    AH (τ:=(List YX)) (fun k9=>
     Option.bind (some (Option.getD (B8 BE 2) 0)) fun v10=>
     Option.bind (apnd (α:=YX) 40 w ([(⟨v10,2,v8⟩:YX)]:List YX)) fun v11=>
     k9 v11
    ) fun v12=>
    k7 v12
   else
    Option.bind (A0 a.Path) fun v13=>
    AH (τ:=(List YX)) (fun k14=>
     AH (τ:=(List YX)) (fun k15=>
      if (cond false true (decide ((a.Path.length:Int) > 0)))=true then
       Option.bind (some (Option.getD (B8 BE 2) 0)) fun v16=>
       Option.bind (apnd (α:=YX) 40 w ([(⟨v16,2,v13⟩:YX)]:List YX)) fun v17=>
       k15 v17
      else
       k15 w
     ) fun v18=>
     k14 v18
    ) fun v19=>
    k7 v19
  ) q=q (w++ent a 2):=by
  intro ρ w hw q
  have hG:G a 2=if a.Origin≠-1\/a.Path≠[] then some (L0 a.Path) else none:=rfl
  have e:(a.Path≠[])↔0<a.Path.length:=List.length_pos_iff.symm
  unfold ent
  rw[AG,hpath,Ih,hG]
  by_cases h:a.Origin=-1
  ·rw[if_neg (by simp[h]),AA,AG,AG,cond_false]
   by_cases h2:0<a.Path.length
   ·rw[if_pos (by simp only[decide_eq_true_eq];omega),if_pos (.inr (e.2 h2)),AA,AY (by decide) (by simp;omega),AA]
   rw[if_neg (by simp only[decide_eq_true_eq];omega),if_neg (by rw[e];omega),List.append_nil]
  rw[if_pos (by simpa using h),if_pos (.inl h),AA,AG,AA,AY (by decide) (by simp;omega),AA]
 have l1:=Es a 1
 have l2:=Es a 2
 have l3:=Es a 3
 have l4:=Es a 4
 have l5:=Es a 5
 have l8:=Es a 8
 have l32:=Es a 32
 refine (s2 _ (by omega) _).trans ?_
 have s3 :∀{ρ:Type} (w:List YX) (hw:w.length<=2) (q:List YX->Option ρ),AH (τ:=(List YX)) (fun k21=>
   if (!a.Next.V6)=true then
    Option.bind (Ar a.Next) fun v22=>
    AH (τ:=(List YX)) (fun k23=>
     AH (τ:=(List YX)) (fun k24=>
      if (cond true (!(Addr.eqd a.Next (⟨false,(0:UInt64),(0:UInt64)⟩:Addr))) false)=true then
       Option.bind (some (Option.getD (B8 BE 3) 0)) fun v25=>
       Option.bind (apnd (α:=YX) 40 w ([(⟨v25,3,v22⟩:YX)]:List YX)) fun v26=>
       k24 v26
      else
       k24 w
     ) fun v27=>
     k23 v27
    ) fun v28=>
    k21 v28
   else
    Option.bind (Ar a.Next) fun v29=>
    AH (τ:=Unit) (fun k30=>
     k30 ()
    ) fun _=>
    k21 w
  ) q=q (w++ent a 3):=by
  intro ρ w hw q
  have hG:G a 3=if K1 a=true then some (b4 a.Next.Lo.toNat) else none:=rfl
  unfold ent
  rw[AG,Ih,hG]
  unfold K1
  cases h6:a.Next.V6
  ·rw[if_pos (by rfl),Q7 v.n h6,AA,AG,AG]
   cases Addr.eqd a.Next ⟨false,0,0⟩
   ·rw[if_pos (by rfl),if_pos (by rfl),AA,AY (by decide) (by simp;omega),AA]
   rw[if_neg (by decide),if_neg (by decide),List.append_nil]
  obtain⟨r,hr⟩:=Uy a.Next
  rw[if_neg (by decide),hr,AA,AG,if_neg (by simp),List.append_nil]
 refine (s3 _ (by rw[X11];omega) _).trans ?_
 rw[IX,AA]
 have en :∀(k:Int) (c:Bool) (d:List UInt8),G a k=(if c=true then some d else none)->(if c=true then [(⟨fl k,k,d⟩:YX)] else [])=ent a k:=by
  intro k c d h
  unfold ent
  rw[h]
  cases c<;>rfl
 have c4:G a 4=if (a.MED != (-1))=true then some (w4 a.MED) else none:=by
  have:G a 4=if a.MED≠-1 then some (w4 a.MED) else none:=rfl
  rw[this];simp only[bne_iff_ne]
 have c5:G a 5=if (a.Pref != (-1))=true then some (w4 a.Pref) else none:=by
  have:G a 5=if a.Pref≠-1 then some (w4 a.Pref) else none:=rfl
  rw[this];simp only[bne_iff_ne]
 have c35:G a 35=if (a.OTC != (-1))=true then some (w4 a.OTC) else none:=by
  have:G a 35=if a.OTC≠-1 then some (w4 a.OTC) else none:=rfl
  rw[this];simp only[bne_iff_ne]
 have c8:G a 8=if decide ((a.Communities.length:Int) > 0)=true then some (a.Communities.flatMap I9) else none:=by
  have:G a 8=if a.Communities≠[] then some (a.Communities.flatMap I9) else none:=rfl
  rw[this]
  cases a.Communities with
  | nil=>rfl
  | cons x t=>rw[if_pos (by simp),if_pos (by simp)]
 have c32:G a 32=if decide ((a.Ye.length:Int) > 0)=true then some (a.Ye.flatMap HA) else none:=by
  have:G a 32=if a.Ye≠[] then some (a.Ye.flatMap HA) else none:=rfl
  rw[this]
  cases a.Ye with
  | nil=>rfl
  | cons x t=>rw[if_pos (by simp),if_pos (by simp)]
 refine (VF (f:=fl 4) rfl (by simp only[X11];omega)).trans ?_
 rw[en 4 _ _ c4,IX,AA]
 refine (VF (f:=fl 5) rfl (by simp only[X11];omega)).trans ?_
 rw[en 5 _ _ c5,RO hc.1 (by omega),AA]
 refine (VF (f:=fl 8) rfl (by simp only[X11];omega)).trans ?_
 rw[en 8 _ _ c8,Qz (by omega),AA]
 refine (VF (f:=fl 32) rfl (by simp only[X11];omega)).trans ?_
 rw[en 32 _ _ c32,IX,AA]
 refine (VF (f:=fl 35) rfl (by simp only[X11];omega)).trans ?_
 rw[en 35 _ _ c35]
 have l35:=Es a 35
 refine (V7 (by have:=v.e;omega) v.sm.d (by simp only[X11];omega)).trans ?_
 have e:ent a 1++ent a 2++ent a 3++ent a 4++ent a 5++ent a 8++ent a 32++ent a 35++a.Other=KT a:=by
  unfold KT Jj
  simp only[List.flatMap_cons,List.flatMap_nil,List.append_nil,List.append_assoc]
 rw[e,N8 v.O (by unfold KT;rw[X11];have:=Lq a;have:=v.e;omega),AA]
theorem Lp (p:Yb):D4 p=some (Fq p):=by
 have hg:=(I3 p).2
 have no:¬ Eb p->some false=some (Fq p):=fun q=>by
  have:Fq p=false:=by
   rw[Bool.eq_false_iff]
   exact fun e=>q (hg.1 e)
  rw[this]
 unfold D4
 rw[AG,DU,AA,Ks]
 simp only[AA,cond_true]
 by_cases ho:p.Addr.ok=true
 case neg=>
  rw[if_neg ho]
  exact no fun q=>ho q.1
 rw[if_pos ho]
 by_cases h0:0<=p.Len
 case neg=>
  rw[if_neg (by simpa using h0)]
  exact no fun q=>h0 q.2.1
 rw[if_pos (by simpa using h0)]
 by_cases h1:p.Len<=p.Addr.w
 case neg=>
  rw[if_neg (by simpa using h1)]
  exact no fun q=>h1 q.2.2.1
 rw[if_pos (by simpa using h1)]
 obtain⟨k,hk⟩ :∃k:Nat,p.Len=k:=⟨p.Len.toNat,by omega⟩
 have hf:=KU p.Addr (n:=k) (by omega)
 rw[<- hk] at hf
 rw[hf,AA]
 congr 1
 rw[X28,hg,Addr.eqd_iff]
 have e:p.Len.toNat=k:=by omega
 exact⟨fun h=>⟨ho,h0,h1,by rw[e];exact h⟩,fun h=>by have:=h.2.2.2;rw[e] at this;exact this⟩
theorem IK {acc:List UInt8}{l:List Yb}(ha:acc.length<=1000000)(hl:l.length<=100000)(hg :∀p∈l,Eb p)(six:Bool):CQ acc l six=some (acc++An six l):=by
 unfold CQ
 rw[AG]
 refine (Rx (fun (t:List Yb) _ (s:List UInt8)=>s.length+17*t.length<=10000000/\∀p∈t,Eb p) (fun t _ s=>some (s++An six t)) ?_ ?_ l 0 acc ⟨by omega,hg⟩).trans rfl
 ·intro i s _
  show some s=some (s++[])
  rw[List.append_nil]
 rintro next p t i s ⟨h1,h2⟩ hn
 simp only[X12] at h1
 have hp:=h2 p (by simp)
 have hcl:=NR hp
 have ht :∀q∈t,Eb q:=fun q hq=>h2 q (X19 _ hq)
 obtain⟨k1,k2,k3,_⟩:=hp
 have e2:=(MV k1).2
 obtain⟨w1,w2⟩:=w_L p.Addr
 rw[AG,G9]
 by_cases h6:(p.Addr.V6==six)=true
 ·obtain⟨k,hk⟩ :∃k:Nat,p.Len=k:=⟨p.Len.toNat,by omega⟩
  have e3:AT (Int.tdiv (AT (p.Len+7)) 8)=(((p.Len.toNat+7)/8:Nat):Int):=by
   rw[hk,Int.toNat_natCast,AZ (x:=(k:Int)+7) (by omega),Int.tdiv_eq_ediv_of_nonneg (by omega),AZ (by omega)]
   omega
  have e4:(p.Len.toNat+7)/8<=p.Addr.L:=by omega
  rw[if_pos h6,if_pos h6,AY (by decide) (by simp only[X22];omega),AA,Hl k1,AA,e3,F2 (by omega),AA,
   AY (by decide) (by simp only[X11,X22,X18];omega),AA]
  dsimp only
  rw[hn _ ⟨by
   simp only[X11,X22,X18]
   omega,ht⟩]
  unfold OC
  simp only[List.append_assoc,List.singleton_append,List.cons_append,List.nil_append]
 rw[if_neg h6,if_neg h6]
 dsimp only
 rw[hn _ ⟨by omega,ht⟩,List.nil_append]
theorem Ht {l:List Yb}(hl:l.length<=100000)(hg :∀p∈l,Eb p)(six:Bool):CH l six=some (An six l):=IK (acc:=[]) (by simp) hl hg six
theorem Ob (n:Nat):DC (n:Int)=some (two n):=by
 unfold DC
 rw[AY (by decide) (by simp),AA]
 rfl
theorem QX {b:List UInt8}(hb:b.length<=1000000)(n:Nat):EC b (n:Int)=some (b++two n):=by
 unfold EC
 rw[AY (by decide) (by simp only[X12,X13];omega),AA]
 rfl
theorem U9 (a b:YX):DR a b=some (Dx (F4 a) (F4 b)):=PI a b
theorem RA {u:Yc}(g:GoodU u):(Dy u).length<=18/\∀x∈Dy u,x.Data.length<=20000:=by
 have cw6:=CS (six:=true) g.gw
 have ca6:=CS (six:=true) g.ga
 have hw:=g.w;have hn:=g.n
 have h0:(lst0 u).length<=16/\∀x∈lst0 u,x.Data.length<=768:=by
  unfold lst0
  split
  ·exact (g.a ‹_›).2
  simp
 have hL:(byB u.YY.Next).length<=16\/u.Announce.length=0:=by
  rcases Nat.eq_zero_or_pos u.Announce.length with h | h
  ·exact .inr h
  have:=(MV (g.a h).1.n).2
  have:=(w_L u.YY.Next).2
  exact .inl (by omega)
 have h1:(MH u).length<=17/\∀x∈MH u,x.Data.length<=20000:=by
  unfold MH
  split
  ·refine⟨by rw[JM];omega,fun x hx=>?_⟩
   rcases Fp.1 hx with hx | rfl
   ·have:=h0.2 x hx;omega
   have hl:(byB u.YY.Next).length<=16:=hL.resolve_right (by omega)
   simp only[X11,X12,X13]
   omega
  exact⟨by omega,fun x hx=>by have:=h0.2 x hx;omega⟩
 unfold Dy
 split
 ·refine⟨by rw[JM];omega,fun x hx=>?_⟩
  rcases Fp.1 hx with hx | rfl
  ·exact h1.2 x hx
  simp only[X11,X12,X13]
  omega
 exact⟨by omega,h1.2⟩
theorem TS {u:Yc}(h:WrU u)(he:u.Announce=[]->u.YY=eA):Ea u=some (Dy u):=by
 have g:=h.g
 have hw:=g.w;have hn:=g.n
 have cw6:=CS (six:=true) g.gw
 have ca6:=CS (six:=true) g.ga
 have e00:u.Announce=[]↔¬ 0<u.Announce.length:=by rw[List.length_pos_iff];exact Decidable.not_not.symm
 have v:VA u.YY:=by
  by_cases hp:0<u.Announce.length
  ·exact (g.a hp).1
  rw[he (e00.2 hp)];exact W7
 have e0:wrS u.YY=lst0 u:=by
  unfold lst0
  by_cases hp:0<u.Announce.length
  ·rw[if_pos hp]
  rw[if_neg hp,he (e00.2 hp),Wy]
 have l0:(lst0 u).length<=16:=e0 ▸ Q8 v
 have c0:0<(An true u.Announce).length↔0<u.Announce.length/\u.YY.Next.V6=true:=by
  rw[S9]
  constructor
  ·intro q
   obtain⟨p,hp⟩:=List.exists_mem_of_ne_nil _ q
   rw[List.mem_filter] at hp
   refine⟨List.length_pos_of_mem hp.1,?_⟩
   rw[<- h.s p hp.1]
   simpa using hp.2
  rintro⟨q1,q2⟩
  obtain⟨p,hp⟩:=List.exists_mem_of_ne_nil _ (List.length_pos_iff.1 q1)
  refine List.ne_nil_of_mem (a:=p) (List.mem_filter.2 ⟨hp,?_⟩)
  rw[h.s p hp,q2];rfl
 have hL:=(MV v.n).2
 have hL2:=(w_L u.YY.Next).2
 unfold Ea
 show WrJ u.YY _=_
 rw[Q1 v]
 dsimp only
 rw[e0]
 have e1 :∀{ρ:Type} (K:Bool->Option ρ),AH (τ:=Bool) (fun k79=>
  if (decide ((u.Announce.length:Int) > 0)) then
   k79 (cond true u.YY.Next.V6 false)
  else
   k79 false) K=K (decide (0<(An true u.Announce).length)):=by
  intro ρ K
  rw[AG]
  by_cases hp:0<u.Announce.length
  ·rw[if_pos (by simp only[decide_eq_true_eq];omega)]
   congr 1
   rw[X28,decide_eq_true_eq,c0]
   exact⟨fun q=>⟨hp,q⟩,fun q=>q.2⟩
  rw[if_neg (by simp only[decide_eq_true_eq];omega)]
  congr 1
  rw[X28,decide_eq_true_eq,c0]
  exact⟨(fun q=>nomatch q),fun q=>absurd q.1 hp⟩
 rw[e1]
 have e2 :∀{ρ:Type} (K:List YX->Option ρ),AH (τ:=(List YX)) (fun k81=>
  if decide (0<(An true u.Announce).length) then
   Option.bind (Ar u.YY.Next) fun v82=>
   Option.bind (apnd (α:=UInt8) 1 ([(0:UInt8),(2:UInt8),(1:UInt8),(16:UInt8)]:List UInt8) v82) fun v83=>
   Option.bind (apnd (α:=UInt8) 1 v83 ([(0:UInt8)]:List UInt8)) fun v84=>
   Option.bind (CQ v84 u.Announce true) fun v85=>
   Option.bind (apnd (α:=YX) 40 (lst0 u) ([(⟨128,14,v85⟩:YX)]:List YX)) fun v86=>
   k81 v86
  else
   k81 (lst0 u)) K=K (lst0 u++if 0<(An true u.Announce).length then [x14 u] else []):=by
  intro ρ K
  rw[AG]
  by_cases hp:0<(An true u.Announce).length
  ·rw[if_pos (by simpa using hp),if_pos hp,Hl v.n,AA,AY (by decide) (by simp only[X12,X13];omega),AA,
    AY (by decide) (by simp only[X11,X12,X13];omega),AA,
    IK (by simp only[X11,X12,X13];omega) (by omega) g.ga,AA,AY (by decide) (by simp only[X12,X13];omega),AA]
   rfl
  rw[if_neg (by simpa using hp),if_neg hp,List.append_nil]
 rw[e2,Ht (by omega) g.gw,AA]
 have e3 :∀{ρ:Type} (w:List YX) (hw:w.length<=17) (K:List YX->Option ρ),AH (τ:=(List YX)) (fun k89=>
  if (decide (((An true u.Withdraw).length:Int) > 0)) then
   Option.bind (apnd (α:=UInt8) 1 ([(0:UInt8),(2:UInt8),(1:UInt8)]:List UInt8) (An true u.Withdraw)) fun v90=>
   Option.bind (apnd (α:=YX) 40 w ([(⟨128,15,v90⟩:YX)]:List YX)) fun v91=>
   k89 v91
  else
   k89 w) K=K (w++if 0<(An true u.Withdraw).length then [x15 u] else []):=by
  intro ρ w hw K
  rw[AG]
  by_cases hp:0<(An true u.Withdraw).length
  ·rw[if_pos (by simp only[decide_eq_true_eq];omega),if_pos hp,AY (by decide) (by simp only[X12,X13];omega),AA,AY (by decide) (by simp only[X12,X13];omega),AA]
   rfl
  rw[if_neg (by simp only[decide_eq_true_eq];omega),if_neg hp,List.append_nil]
 have l1:(lst0 u++if 0<(An true u.Announce).length then [x14 u] else []).length<=17:=by
  rw[X11]
  split<;>simp only[X22,X13]<;>omega
 rw[e3 _ l1,List.append_assoc]
 show Option.bind (D9 DR (raw u)) _=_
 have l2:(raw u).length<=1000000:=by
  have q1:(if 0 < (An true u.Withdraw).length then [x15 u] else []).length<=1:=by split<;>simp
  unfold raw
  rw[<- List.append_assoc,X11]
  omega
 rw[Ub h U9 l2 (UY h),AA]
def bdP (u:Yc):List UInt8×Bool:=(HJ u (CB (Dy u)).1,((CB (Dy u)).2==0)&&decide ((HJ u (CB (Dy u)).1).length<=4077))
theorem NX {u:Yc}(h:WrU u)(he:u.Announce=[]->u.YY=eA):DD u=some (bdP u):=by
 have g:=h.g
 have hw:=g.w;have hn:=g.n
 have cw4:=CS (six:=false) g.gw
 have ca4:=CS (six:=false) g.ga
 obtain⟨s1,s2⟩:=RA g
 have hj:=Tj (l:=Dy u)
 unfold DD bdP
 rw[TS h he,AA,TX (by omega) (fun x hx=>by have:=s2 x hx;omega),AA]
 dsimp only
 rw[Ht (by omega) g.gw,AA,Ob,AA,AY (by decide) (by simp only[two,X12,X13];omega),AA,
  QX (by simp only[two,X11,X12,X13];omega),AA,
  AY (by decide) (by simp only[two,X11,X12,X13];omega),AA,
  IK (by simp only[two,X11,X12,X13];omega) (by omega) g.ga,AA,AG]
 show (if ((CB (Dy u)).2==0)=true then some (HJ u (CB (Dy u)).1,cond true (decide (((HJ u (CB (Dy u)).1).length:Int)<=4077)) false) else some (HJ u (CB (Dy u)).1,false))=_
 have e:decide (((HJ u (CB (Dy u)).1).length:Int)<=4077)=decide ((HJ u (CB (Dy u)).1).length<=4077):=by rw[decide_eq_decide];omega
 rw[e]
 cases ((CB (Dy u)).2==0)<;>rfl
theorem WS (a b c d:Nat)(ha:a<=1000000)(hb:b<=1000000)(hc:c<=1000000)(hd:d<=1000000):(AT (AT (AT ((a:Int)+b)+c)+d)==0)=(decide (a=0)&&(decide (b=0)&&(decide (c=0)&&decide (d=0)))):=by
 rw[AZ (x:=(a:Int)+b) (by omega),AZ (x:=(a:Int)+b+c) (by omega),AZ (x:=(a:Int)+b+c+d) (by omega)]
 rw[X28]
 simp only[beq_iff_eq,X27,decide_eq_true_eq]
 omega
theorem RQ {a:YY}(h:SmT a):D3 a=some (isE a):=by
 unfold D3
 rw[Rk,AG,AG,WS _ _ _ _ h.p h.c h.l h.o]
 have e :∀{α:Type} (l:List α),decide (l.length=0)=decide (l=[]):=fun l=>by rw[decide_eq_decide];exact List.length_eq_zero_iff
 rw[e,e,e,e]
 show (if (a.Origin==(-1))=true then _ else _)=_
 unfold zAd
 cases (a.Origin==(-1))<;>cases (a.MED==(-1))<;>cases (a.Pref==(-1))<;>cases (a.OTC==(-1))<;>cases (Addr.eqd a.Next ⟨false,0,0⟩)<;>simp
theorem NM (u:Yc) :∀(l:List Yb) (i:Nat),Ah (σ:=Yc) (fun v2=>some ((-1:Int),v2)) (fun next3 (x4:Yb) i5 v2=>Option.bind (Cb x4 v2) fun (v6,v7)=>if v6 then some ((i5:Int),v7) else next3 v7) l i u=some (match l.findIdx? (fun p=>!(p.Addr.V6==u.YY.Next.V6)) with | some j=>((i+j:Nat):Int)|none=>-1,u)
 | [],_=>rfl
 | x::t,i=>by
  show Option.bind (Cb x u) (fun (v6,v7)=>if v6 then some ((i:Int),v7) else Ah (σ:=Yc) (fun v2=>some ((-1:Int),v2)) _ t (i+1) v7)=_
  rw[show Cb x u=some (!(x.Addr.V6==u.YY.Next.V6),u) from rfl,AA,List.findIdx?_cons]
  dsimp only
  by_cases hq:(!(x.Addr.V6==u.YY.Next.V6))=true
  ·rw[if_pos hq,if_pos hq];simp
  rw[if_neg hq,if_neg hq,NM u t]
  cases t.findIdx? _ with
  | none=>rfl
  | some j=>show some (((i+1+j:Nat):Int),u)=some (((i+(j+1):Nat):Int),u);rw[show i+1+j=i+(j+1) by omega]
theorem fits_any (u:Yc)(l:List Yb):AQ l u=some (l.any (fun p=>!(p.Addr.V6==u.YY.Next.V6)),u):=by
 unfold AQ AU
 rw[AG,NM,AA]
 dsimp only
 congr 2
 cases hf:l.findIdx? (fun p=>!(p.Addr.V6==u.YY.Next.V6)) with
 | none=>
  rw[List.findIdx?_eq_none_iff] at hf
  have:l.any (fun p=>!(p.Addr.V6==u.YY.Next.V6))=false:=by
   rw[List.any_eq_false]
   intro x hx
   rw[hf x hx];simp
  rw[this];rfl
 | some j=>
  obtain⟨h1,h2,_⟩:=List.findIdx?_eq_some_iff_getElem.1 hf
  have:l.any (fun p=>!(p.Addr.V6==u.YY.Next.V6))=true:=List.any_eq_true.2 ⟨_,List.getElem_mem h1,h2⟩
  rw[this]
  simp
def Nz (u:Yc):Bool:=(!(decide (u.Announce=[])) || isE u.YY)&&u.Announce.all (RG u.YY)
theorem Rl {α:Type}{f:α->Bool}{c:Bool} :∀{l:List α},l≠[]->l.all (fun x=>f x&&c)=(l.all f&&c)
 | [x],_=>by simp
 | x::y::t,_=>by
  rw[List.all_cons,Rl (l:=y::t) (by simp),List.all_cons (l:=y::t)]
  cases f x<;>cases c<;>simp
theorem S4 {u:Yc}(h:SmT u.YY):EV u=some (Nz u):=by
 unfold EV Nz
 by_cases ha:u.Announce=[]
 ·rw[if_pos (by rw[ha];rfl),RQ h,AA,ha]
  simp
 have hl:0<u.Announce.length:=List.length_pos_iff.2 ha
 rw[if_neg (by rw[beq_iff_eq];omega),AG,Ll h,AA,fits_any,AA,decide_eq_false ha]
 have e:u.Announce.all (RG u.YY)=(u.Announce.all (fun p=>p.Addr.V6==u.YY.Next.V6)&&((u.YY.Origin != -1)&&(!(Addr.eqd u.YY.Next zAd)&&HD u.YY))):=by
  rw[<- Rl ha];rfl
 have e2:u.Announce.any (fun p=>!(p.Addr.V6==u.YY.Next.V6))=!u.Announce.all (fun p=>p.Addr.V6==u.YY.Next.V6):=by
  rw[List.not_all_eq_any_not]
 rw[e,e2]
 show (if HD u.YY=true then _ else _)=_
 unfold zAd
 cases HD u.YY<;>cases (u.YY.Origin != (-1))<;>cases (Addr.eqd u.YY.Next ⟨false,0,0⟩)<;>cases u.Announce.all (fun p=>p.Addr.V6==u.YY.Next.V6)<;>rfl
theorem Nr (l:List Yb):AP l=some (!l.all Fq):=by
 have h:=XW (f:=C0) (q:=fun p=>!Fq p) (l:=l) fun x _=>by unfold C0;rw[Lp,AA]
 rw[<- List.not_all_eq_any_not] at h
 exact h
theorem Wc {u:Yc}(h1:u.Withdraw.length<=256)(h2:u.Announce.length<=256)(h3:(u.Withdraw++u.Announce).all Fq=true)(h5:u.Announce.all (RG u.YY)=true):WrU u:=by
 have hgood :∀p∈u.Withdraw++u.Announce,Eb p:=fun p hp=>(I3 p).2.1 (List.all_eq_true.1 h3 p hp)
 have hfit :∀p∈u.Announce,p.Addr.V6=u.YY.Next.V6/\u.YY.Origin≠-1/\u.YY.Next≠zAd/\VA u.YY:=fun p hp=>by
  have:=List.all_eq_true.1 h5 p hp
  unfold RG at this
  simp only[X27,beq_iff_eq,bne_iff_ne,Bool.not_eq_true'] at this
  obtain⟨a1,a2,a3,a4⟩:=this
  exact⟨a1,a2,(fun q=>by rw[q,(Addr.eqd_iff _ _).2 rfl] at a3;cases a3),ON.1 a4⟩
 refine⟨⟨by omega,by omega,fun p hp=>hgood p (List.mem_append_left _ hp),fun p hp=>hgood p (List.mem_append_right _ hp),fun q=>?_⟩,h1,h2,fun p hp=>(hfit p hp).1,fun q=>?_⟩
 ·obtain⟨p,hp⟩:=List.exists_mem_of_ne_nil _ (List.length_pos_iff.1 q)
  have v:=(hfit p hp).2.2.2
  exact⟨v,Q8 v,fun x hx=>Ri v hx⟩
 obtain⟨p,hp⟩:=List.exists_mem_of_ne_nil _ q
 exact⟨(hfit p hp).2.1,(hfit p hp).2.2.1⟩
theorem Kz (u:Yc):U2 u=(bdP u).2/\((bdP u).2=true->GO u=((bdP u).1,0)):=by
 unfold U2 GO bdP
 by_cases hj:(CB (Dy u)).2=0
 ·have hne:¬ (CB (Dy u)).2≠0:=fun q=>q hj
  rw[if_neg hne]
  have:((CB (Dy u)).2==0)=true:=by rw[hj];rfl
  rw[this]
  exact⟨rfl,fun _=>rfl⟩
 rw[if_pos hj]
 have:((CB (Dy u)).2==0)=false:=by simpa using hj
 dsimp only
 rw[this]
 exact⟨rfl,fun q=>nomatch q⟩
theorem QG (u:Yc):E8 u=(decide (u.Withdraw.length<=256)&&(decide (u.Announce.length<=256)&&((u.Withdraw++u.Announce).all Fq&&(Nz u&&(bdP u).2)))):=by
 unfold E8 Nz
 rw[(Kz u).1]
 simp only[Bool.and_assoc]
theorem Oc {u:Yc}(hs:SmT u.YY):Dw u=some (E8 u):=by
 unfold Dw
 rw[AG,QG]
 by_cases h1:u.Withdraw.length<=256
 case neg=>
  rw[if_pos (by simp only[decide_eq_true_eq];omega),decide_eq_false h1]
  rfl
 rw[if_neg (by simp only[decide_eq_true_eq];omega),decide_eq_true h1]
 by_cases h2:u.Announce.length<=256
 case neg=>
  rw[if_pos (by rw[cond_false,decide_eq_true_eq];omega),decide_eq_false h2]
  rfl
 rw[if_neg (by rw[cond_false,decide_eq_true_eq];omega),decide_eq_true h2,Nr,AA,Nr,AA,S4 hs,AA,List.all_append]
 cases k1:u.Withdraw.all Fq
 ·rfl
 cases k2:u.Announce.all Fq
 ·rfl
 cases k3:Nz u
 ·rfl
 have k5:u.Announce.all (RG u.YY)=true/\(u.Announce=[]->u.YY=eA):=by
  unfold Nz at k3
  simp only[X27,Bool.or_eq_true,Bool.not_eq_true',decide_eq_false_iff_not] at k3
  exact⟨k3.2,fun q=>(O7 _).1 (k3.1.resolve_left fun w=>w q)⟩
 have hu:=Wc h1 h2 (by rw[List.all_append,k1,k2];rfl) k5.1
 show Option.bind (DD u) _=_
 rw[NX hu k5.2,AA]
 rfl
theorem V1 {u:Yc}(h:E8 u=true):WrU u/\(u.Announce=[]->u.YY=eA)/\(bdP u).2=true:=by
 obtain⟨h1,h2,h3⟩:=TO h Q8
 exact⟨h1,fun q=>(O7 _).1 (h3 q),(Kz u).1 ▸ h2⟩
theorem M8 {u:Yc}(hs:SmT u.YY):CY u=some (encS u):=by
 unfold CY encS
 rw[Oc hs,AA]
 cases hv:E8 u with
 | false=>rfl
 | true=>
  obtain⟨h1,h2,h3⟩:=V1 hv
  rw[if_neg (by decide),if_pos rfl,NX h1 h2,AA,(Kz u).2 h3]
structure UOk (u:Yc):Prop where
 v:E8 u=true
 s:SmT u.YY
 w:u.Withdraw.length<=4
 n:u.Announce.length<=5
theorem Wh:SmT eA:=⟨by decide,by decide,by decide,by decide,by decide,fun u hu=>by cases hu⟩
theorem Ul {α:Type}{P:α->Prop}{l:List α}{x:α}(h :∀y∈l,P y)(hx:P x) :∀y∈l++[x],P y:=fun y hy=>by
 rcases X23.1 hy with hy | hy
 ·exact h y hy
 rw[X14] at hy
 rw[hy];exact hx
def p10:Yb:=⟨⟨false,(0:UInt64),(167772160:UInt64)⟩,8⟩
theorem W2:Eb p10:=by
 unfold Eb
 refine⟨by kernel_rfl,by decide,by decide,by kernel_rfl⟩
theorem XY:encS ⟨[p10],eA,[]⟩=([0,2,8,10,0,0],0):=by
 unfold encS
 rw[if_pos (WR (fun p hp=>by rw[X14] at hp;rw[hp];exact W2) (by decide))]
 kernel_rfl
theorem awake:BU=some true:=by
 unfold BU
 rw[show Ds=some eA from rfl,AA]
 show Option.bind (CY ⟨[p10],eA,[]⟩) _=_
 rw[M8 Wh,AA,XY]
 dsimp only
 rw[(by kernel_rfl:FW [0,0,0,0]=some (true,false)),AA]
 kernel_rfl
structure SmUp (u:Yc):Prop where
 s:SmT u.YY
 w:u.Withdraw.length<=1000
 n:u.Announce.length<=1000
theorem UOk.sm {u:Yc}(h:UOk u):SmUp u:=⟨h.s,by have:=h.w;omega,by have:=h.n;omega⟩
theorem UOk.enc {u:Yc}(h:UOk u) :∃a,encS u=(HJ u (CB (Dy u)).1,0)/\(CB (Dy u)).2=0/\a=WrU u/\WrU u/\(u.Announce=[]->u.YY=eA):=by
 obtain⟨h1,h2,h3⟩:=V1 h.v
 have e:=(Kz u).2 h3
 unfold encS
 rw[if_pos h.v,e]
 unfold bdP at h3 ⊢
 simp only[X27,beq_iff_eq] at h3
 exact⟨_,rfl,h3.1,rfl,h1,h2⟩
theorem Oq {n:Nat}(h:n<65536) :∃a b:UInt8,two n=[a,b]/\a.toNat*256+b.toNat=n:=by
 have e1:Int.fdiv (n:Int) (2^(min (Int.toNat 8) 64))=((n/256:Nat):Int):=XD n
 refine⟨_,_,rfl,?_⟩
 rw[e1,Bj,Bj,UInt8.toNat_ofNat',UInt8.toNat_ofNat']
 omega
theorem VL {k:Nat}{v:List UInt8}(hk:k<=8)(hl:v.length=16)(hv:v.take k=List.replicate k 255) :
  (v.take k++(v.take k).take (16-k)++v.drop (k+k)).length=16/\(v.take k++(v.take k).take (16-k)++v.drop (k+k)).take (k+k)=List.replicate (k+k) 255:=by
 constructor
 ·simp only[X11,X18,X17]
  omega
 rw[hv,List.take_replicate,Nat.min_eq_right (show k<=16-k by omega),List.replicate_append_replicate,List.take_append_of_le_length (by simp),List.take_of_length_le (by simp)]
theorem Sz:D7 [255] 16=some (List.replicate 16 255):=by
 have hm:EO (AL (([255]:List UInt8).length:Int)) (AL 16)=some (0,16):=by kernel_rfl
 have e16:AT ((16:UInt64).toNat:Int)=16:=by kernel_rfl
 unfold D7
 rw[if_neg (by decide),if_neg (by decide),hm,AA]
 dsimp only
 rw[AG,if_neg (by decide)]
 show (if (decide (((16:UInt64).toNat:Int) > 9223372036854775807))=true then none else _)=_
 rw[if_neg (by decide),if_neg (by decide),AG,e16,if_neg (by decide)]
 refine Oe (by decide) fun l hl=>?_
 have hl:l.length=16:=hl
 have hc:chk ((16:Int)<=16/\(16:Int)<=(l.length:Int))=some ():=if_pos (by omega)
 have hp:part l 0 16=some l:=by
  have:=HF (l:=l) (a:=0) (b:=16) (by omega) (by omega)
  rw[List.drop_zero,List.take_of_length_le (by omega)] at this
  exact this
 rw[hc,AA,hp,AA,AG]
 refine EI (fun s:Int×List UInt8=>s.2.length=16/\∃k:Nat,s.1=k/\(k=1\/k=2\/k=4\/k=8\/k=16)/\s.2.take k=List.replicate k 255) (fun s=>(16-s.1).toNat) (fun _=>some (List.replicate 16 255)) ?_ fuel _ ?_ ?_
 ·rintro next ⟨b,v⟩ ⟨h1,k,h2,h3,h4⟩ hn
  dsimp only at h1 h2 h4 ⊢
  subst h2
  by_cases h16:k=16
  ·subst h16
   rw[if_neg (by simp),<- h4,List.take_of_length_le (by omega)]
  have hk:k<=8:=by omega
  obtain⟨g1,g2⟩:=VL hk h1 h4
  have em:(if (16:Int)<(k:Int) then (16:Int) else (k:Int))=(k:Int):=if_neg (by omega)
  have c1:chk (0<=(k:Int)/\(k:Int)<=(v.length:Int)/\(v.length:Int)<=(v.length:Int))=some ():=if_pos (by omega)
  have c2:chk (0<=(0:Int)/\(0:Int)<=(k:Int)/\(k:Int)<=(v.length:Int))=some ():=if_pos (by omega)
  have et:List.take (Int.toNat (k:Int)-Int.toNat 0) (List.drop (Int.toNat 0) v)=v.take k:=by rw[Int.toNat_natCast];rfl
  have el:(v.take k).length=k:=by rw[X18];omega
  rw[if_pos (by simp only[decide_eq_true_eq];omega),em,c1,AA,c2,AA,et,el,Int.toNat_natCast,Int.toNat_natCast,h1,Nat.min_eq_left (show k<=16-k by omega),AZ (by omega)]
  refine hn _ ⟨?_,k+k,by dsimp only;omega,by omega,?_⟩ (by dsimp only;omega)
  ·dsimp only
   unfold cpy
   rw[el,Nat.min_eq_left (show k<=16-k by omega)]
   exact g1
  dsimp only
  unfold cpy
  rw[el,Nat.min_eq_left (show k<=16-k by omega)]
  exact g2
 ·refine⟨?_,1,?_,.inl rfl,?_⟩
  ·dsimp only
   unfold cpy
   simp only[X11,X18,X17,X12,X13]
   omega
  ·dsimp only
   rw[hl]
   rfl
  dsimp only
  unfold cpy
  rw[hl]
  rfl
 exact Et (by dsimp only;omega)
theorem Nc:Bf=some (List.replicate 16 255):=by
 unfold Bf
 rw[Sz,AA]
def IW:List UInt8:=List.replicate 16 255
def frB (m:Ya):List UInt8:=IW++two (m.Body.length+19)++[Ab m.Type_]++m.Body
def frS (m:Ya):List UInt8×Int:=if 1<=m.Type_/\m.Type_<=5 then (if m.Body.length<=4077 then (frB m,0) else ([],3)) else ([],1)
theorem FM:IW.length=16:=by unfold IW;simp
theorem Oz (n:Nat):(two n).length=2:=rfl
theorem Hw (m:Ya):(frB m).length=19+m.Body.length:=by
 unfold frB
 simp only[X11,FM,Oz,X22]
theorem PT (t:Int):DO t=some (decide (1<=t/\t<=5)):=by
 unfold DO
 rw[AG]
 by_cases h:1<=t
 ·rw[if_pos (by simpa using h)]
  show some (decide (t<=5))=_
  congr 1
  rw[decide_eq_decide];omega
 rw[if_neg (by simpa using h)]
 congr 1
 rw[eq_comm,decide_eq_false_iff_not];omega
theorem Ly {m:Ya}(hm:m.Body.length<=1000000):DK m=some (frS m):=by
 unfold DK frS
 rw[PT,AA]
 by_cases h:1<=m.Type_/\m.Type_<=5
 case neg=>rw[decide_eq_false h,if_pos (by rfl),if_neg h]
 rw[decide_eq_true h,if_neg (by decide),if_pos h]
 by_cases hl:m.Body.length<=4077
 case neg=>rw[if_pos (by simp only[decide_eq_true_eq];omega),if_neg hl]
 rw[if_neg (by simp only[decide_eq_true_eq];omega),if_pos hl]
 have e:AT (19+(m.Body.length:Int))=((m.Body.length+19:Nat):Int):=by rw[AZ (by omega)];omega
 have l16:=FM
 rw[show Bf=some IW from Nc,AA,e,QX (by omega),AA,AY (by decide) (by simp only[X11,Oz,X22];omega),AA,
  AY (by decide) (by simp only[X11,Oz,X22];omega),AA]
 rfl
theorem H3 {m:Ya}(hm:m.Body.length<=1000000):CN m=some (frS m):=by
 unfold CN frS
 have hk :∀{ρ:Type} (K:Bool->Option ρ),AH (τ:=Bool) (fun k1=>
   if (decide (m.Type_<1)) then
    k1 true
   else
    k1 (cond false true (decide (m.Type_ > 5)))) K=K (!decide (1<=m.Type_/\m.Type_<=5)):=by
  intro ρ K
  rw[AG]
  by_cases h1:1<=m.Type_
  case neg=>rw[if_pos (by simp only[decide_eq_true_eq];omega),decide_eq_false (fun q=>h1 q.1)];rfl
  rw[if_neg (by simp only[decide_eq_true_eq];omega)]
  by_cases h2:m.Type_<=5
  case neg=>rw[decide_eq_true (show m.Type_ > 5 by omega),decide_eq_false (fun q=>h2 q.2)];rfl
  rw[decide_eq_false (show ¬ m.Type_ > 5 by omega),decide_eq_true ⟨h1,h2⟩];rfl
 rw[hk]
 by_cases h:1<=m.Type_/\m.Type_<=5
 case neg=>rw[decide_eq_false h,if_neg h];rfl
 rw[decide_eq_true h,if_pos h]
 show (if decide ((m.Body.length:Int) > 4077)=true then some ([],3) else _)=_
 by_cases hl:m.Body.length<=4077
 case neg=>rw[if_pos (by simp only[decide_eq_true_eq];omega),if_neg hl]
 rw[if_neg (by simp only[decide_eq_true_eq];omega),if_pos hl]
 have l16:=FM
 have e:AT ((m.Body.length:Int)+19)=((m.Body.length+19:Nat):Int):=by rw[AZ (by omega)];omega
 have loop :∀{ρ:Type} (K:List UInt8->Option ρ),AH (τ:=(List UInt8)) (fun k3=>
   Cc (σ:=Int×(List UInt8)) (fun next4 (v5,v6)=>
    if (decide (v5<16)) then
     Option.bind (apnd (α:=UInt8) 1 v6 ([(255:UInt8)]:List UInt8)) fun v7=>
     next4 ((AT (v5+1)),v7)
    else
     k3 v6
   ) fuel (0,[])) K=K IW:=by
  intro ρ K
  rw[AG]
  refine EI (fun s:Int×List UInt8=>0<=s.1/\s.1<=16/\s.2=List.replicate s.1.toNat 255) (fun s=>(16-s.1).toNat) (fun _=>K IW) ?_ fuel (0,[]) ⟨by dsimp only;omega,by dsimp only;omega,rfl⟩ (Et (by dsimp only;omega))
  rintro next ⟨i,w⟩ ⟨i1,i2,i3⟩ hn
  dsimp only at i1 i2 i3 ⊢
  by_cases h:i<16
  ·rw[if_pos (by simpa using h),AY (by decide) (by rw[i3];simp only[X20,X22];omega),AA,AZ (x:=i+1) (by omega)]
   refine hn _ ⟨by dsimp only;omega,by dsimp only;omega,?_⟩ (by dsimp only;omega)
   dsimp only
   rw[i3,show (i+1).toNat=i.toNat+1 by omega,List.replicate_succ']
  rw[if_neg (by simpa using h),i3,show i.toNat=16 by omega]
  rfl
 rw[loop,AY (by decide) (by simp only[X12,X13];omega),AA,AY (by decide) (by simp only[X11,X12,X13];omega),AA,e]
 unfold frB two
 simp only[List.append_assoc,List.cons_append,List.nil_append]
def z0:Ya:=⟨0,[]⟩
def Ei (b:List UInt8):Bool:=(b.take 16).all fun x=>x==255
def paN (b:List UInt8)(x y t:UInt8)(r:List UInt8):Ya×Int×Int:=
 if x.toNat*256+y.toNat<19\/4096<x.toNat*256+y.toNat\/¬ (1<=t.toNat/\t.toNat<=5) then (z0,0,12) else
  if b.length<x.toNat*256+y.toNat then (z0,0,4) else (⟨(t.toNat:Int),r.take (x.toNat*256+y.toNat-19)⟩,((x.toNat*256+y.toNat:Nat):Int),0)
def paS (b:List UInt8):Ya×Int×Int:=
 if Ei b=true then (match b.drop 16 with
  | x::y::t::r=>paN b x y t r
  | _=>(z0,0,4)) else (z0,0,12)
theorem VJ (b:List UInt8):bytes_HasPrefix IW (b.take 16)=some (Ei b):=by
 have l16:=FM
 have hl:(b.take 16).length<=16:=by rw[X18];omega
 unfold bytes_HasPrefix
 rw[AG,if_pos (by simp only[decide_eq_true_eq];omega),F2 (by omega),AA,Uc,AA]
 congr 1
 show ((IW.take (b.take 16).length)==b.take 16)=_
 unfold Ei IW
 rw[X28,beq_iff_eq,List.all_eq_true,List.take_replicate,Nat.min_eq_left hl]
 constructor
 ·intro h x hx
  rw[<- h] at hx
  simpa using List.eq_of_mem_replicate hx
 intro h
 exact (List.eq_replicate_iff.2 ⟨rfl,fun x hx=>by simpa using h x hx⟩).symm
theorem Qe (b:List UInt8):(b.length<19/\∀{β:Type} {f:UInt8->UInt8->UInt8->List UInt8->β} {z:β},(match b.drop 16 with | x::y::t::r=>f x y t r | _=>z)=z) \/∃x y t r,b.drop 16=x::y::t::r/\b.length=19+r.length:=by
 have hl:=X17 (l:=b) (i:=16)
 rcases h:b.drop 16 with _ | ⟨x,_ | ⟨y,_ | ⟨t,r⟩⟩⟩
 ·rw[h,X13] at hl
  exact .inl ⟨by omega,rfl⟩
 ·rw[h] at hl
  simp only[X12,X13] at hl
  exact .inl ⟨by omega,rfl⟩
 ·rw[h] at hl
  simp only[X12,X13] at hl
  exact .inl ⟨by omega,rfl⟩
 rw[h] at hl
 simp only[X12] at hl
 exact .inr ⟨x,y,t,r,rfl,by omega⟩
theorem Xt {b:List UInt8}{x y t:UInt8}{r:List UInt8}(h:b.drop 16=x::y::t::r):geti b 16=some x/\geti b 17=some y/\geti b 18=some t/\b.drop 19=r:=by
 have hl:=congrArg List.length h
 rw[X17] at hl
 simp only[X12] at hl
 have g :∀j,b[16+j]?=(x::y::t::r)[j]?:=fun j=>by rw[<- h,List.getElem?_drop]
 have k :∀(i:Nat) (u:UInt8),b[i]?=some u->geti b (i:Int)=some u:=fun i u e=>by
  obtain⟨h1,h2⟩:=X16.1 e
  rw[CV h1,h2]
 refine⟨k 16 x (g 0),k 17 y (g 1),k 18 t (g 2),?_⟩
 have:b.drop (16+3)=(b.drop 16).drop 3:=by rw[List.drop_drop]
 rw[show (19:Nat)=16+3 from rfl,this,h]
 rfl
theorem FC {b:List UInt8}(hb:b.length<=1000000):Be b=some (paS b):=by
 unfold Be
 have e:part b 0 (if (b.length:Int)<16 then (b.length:Int) else 16)=some (b.take 16):=by
  by_cases h:b.length<16
  ·rw[if_pos (by omega),F2 (by omega),List.take_of_length_le (Nat.le_refl _),List.take_of_length_le (by omega)]
  rw[if_neg (by omega)]
  exact F2 (n:=16) (by omega)
 rw[show Bf=some IW from Nc,AA,e,AA,VJ,AA]
 unfold paS
 cases Ei b
 ·rfl
 rw[if_neg (by decide),if_pos rfl]
 rcases Qe b with ⟨h1,h2⟩|⟨x,y,t,r,h1,h2⟩
 ·rw[if_pos (by simp only[decide_eq_true_eq];omega),h2]
  rfl
 obtain⟨g1,g2,g3,g4⟩:=Xt h1
 have hx:=x.toNat_lt;have hy:=y.toNat_lt
 rw[if_neg (by simp only[decide_eq_true_eq];omega),show part b 16 (b.length:Int)=some (b.drop 16) from QK (n:=16) (by omega),AA,h1,Vy,AA,g3,AA,AG]
 show _=some (paN b x y t r)
 unfold paN
 generalize hN:x.toNat*256+y.toNat=n
 by_cases c1:n<19
 ·rw[if_pos (by simp only[decide_eq_true_eq];omega),if_pos (c:=n<19\/4096<n\/¬(1<=t.toNat/\t.toNat<=5)) (.inl c1)]
  rfl
 rw[if_neg (by simp only[decide_eq_true_eq];omega)]
 by_cases c2:4096<n
 ·rw[if_pos (by rw[cond_false,decide_eq_true_eq];omega),if_pos (c:=n<19\/4096<n\/¬(1<=t.toNat/\t.toNat<=5)) (.inr (.inl c2))]
  rfl
 rw[if_neg (by rw[cond_false,decide_eq_true_eq];omega),PT,AA]
 by_cases c3:1<=t.toNat/\t.toNat<=5
 case neg=>
  rw[if_pos (c:=n<19\/4096<n\/¬(1<=t.toNat/\t.toNat<=5)) (.inr (.inr c3)),decide_eq_false (p:=1<=(t.toNat:Int)/\(t.toNat:Int)<=5) (by omega)]
  rfl
 rw[if_neg (c:=n<19\/4096<n\/¬(1<=t.toNat/\t.toNat<=5)) (by omega),decide_eq_true (p:=1<=(t.toNat:Int)/\(t.toNat:Int)<=5) (by omega)]
 show (if decide ((b.length:Int)<(n:Int))=true then some (z0,0,4) else _)=_
 by_cases c4:b.length<n
 ·rw[if_pos (by simp only[decide_eq_true_eq];omega),if_pos c4]
 rw[if_neg (by simp only[decide_eq_true_eq];omega),if_neg c4,show part b 19 (n:Int)=some ((b.drop 19).take (n-19)) from HF (a:=19) (by omega) (by omega),AA,g4]
 have:EX (r.take (n-19))=some (r.take (n-19)):=by
  unfold EX
  rw[AY (by decide) (by simp only[X13,X18];omega),AA]
  rfl
 rw[this,AA]
theorem Ou {ρ:Type}{K:Unit->Option ρ}{r0:Option ρ} :∀(l:List UInt8) (i:Nat),Ah (σ:=Unit) K (fun next2 (x3:UInt8) i4 _=>
  AH (τ:=Bool) (fun k5=>
   if (decide ((i4:Int)<16)) then
    k5 (cond true ((x3.toNat:Int) != 255) false)
   else
    k5 false
  ) fun v6=>
  if v6 then
   r0
  else
   next2 ()) l i ()=if ((l.take (16-i)).all fun x=>x==255)=true then K () else r0
 | [],i=>by rw[List.take_nil];rfl
 | x::t,i=>by
  rw[TU,AG]
  by_cases h:i<16
  ·rw[if_pos (by simp only[decide_eq_true_eq];omega),show 16-i=(16-(i+1))+1 by omega,List.take_succ_cons,List.all_cons]
   have e:((x.toNat:Int) != 255)=!(x==255):=by
    rw[X28,bne_iff_ne,Bool.not_eq_true',beq_eq_false_iff_ne,ne_eq,ne_eq]
    have:(255:UInt8).toNat=255:=rfl
    rw[<- UInt8.toNat_inj,this]
    omega
   rw[e]
   cases (x==255)
   ·rfl
   exact (Ou t (i+1)).trans (by rw[Bool.true_and])
  rw[if_neg (by simp only[decide_eq_true_eq];omega),show 16-i=0 by omega]
  refine (Ou t (i+1)).trans ?_
  rw[show 16-(i+1)=0 by omega,List.take_zero,List.take_zero]
theorem Ss {b:List UInt8}(hb:b.length<=1000000):EY b=some (paS b):=by
 unfold EY
 rw[AG,Ou]
 unfold paS
 show (if Ei b=true then _ else _)=_
 cases Ei b
 ·rfl
 rw[if_pos rfl,if_pos rfl]
 rcases Qe b with ⟨h1,h2⟩|⟨x,y,t,r,h1,h2⟩
 ·rw[if_pos (by simp only[decide_eq_true_eq];omega),h2]
  rfl
 obtain⟨g1,g2,g3,g4⟩:=Xt h1
 have hx:=x.toNat_lt;have hy:=y.toNat_lt
 rw[if_neg (by simp only[decide_eq_true_eq];omega),g1,AA,g2,AA,Qu (by omega) hy,AG,h1]
 show _=some (paN b x y t r)
 unfold paN
 generalize hN:x.toNat*256+y.toNat=n
 by_cases c1:n<19
 ·rw[if_pos (by simp only[decide_eq_true_eq];omega),if_pos (c:=n<19\/4096<n\/¬(1<=t.toNat/\t.toNat<=5)) (.inl c1)]
  rfl
 rw[if_neg (by simp only[decide_eq_true_eq];omega)]
 by_cases c2:4096<n
 ·rw[if_pos (by rw[cond_false,decide_eq_true_eq];omega),if_pos (c:=n<19\/4096<n\/¬(1<=t.toNat/\t.toNat<=5)) (.inr (.inl c2))]
  rfl
 rw[if_neg (by rw[cond_false,decide_eq_true_eq];omega),g3,AA]
 by_cases c3:1<=t.toNat
 case neg=>
  rw[if_pos (by rw[cond_false,decide_eq_true_eq];omega),if_pos (c:=n<19\/4096<n\/¬(1<=t.toNat/\t.toNat<=5)) (.inr (.inr (by omega)))]
  rfl
 rw[if_neg (by rw[cond_false,decide_eq_true_eq];omega),AA]
 by_cases c5:t.toNat<=5
 case neg=>
  have:decide ((t.toNat:Int) > 5)=true:=by rw[decide_eq_true_eq];omega
  rw[this,if_pos (c:=n<19\/4096<n\/¬(1<=t.toNat/\t.toNat<=5)) (.inr (.inr (by omega)))]
  rfl
 have:decide ((t.toNat:Int) > 5)=false:=by rw[decide_eq_false_iff_not];omega
 rw[this,if_neg (c:=n<19\/4096<n\/¬(1<=t.toNat/\t.toNat<=5)) (by omega)]
 show (if decide ((b.length:Int)<(n:Int))=true then some (z0,0,4) else _)=_
 by_cases c4:b.length<n
 ·rw[if_pos (by simp only[decide_eq_true_eq];omega),if_pos c4]
 rw[if_neg (by simp only[decide_eq_true_eq];omega),if_neg c4,AA,show part b 19 (n:Int)=some ((b.drop 19).take (n-19)) from HF (a:=19) (by omega) (by omega),AA,g4,
  AY (by decide) (by simp only[X13,X18];omega),AA]
theorem Np (m:Ya)(h:m.Body.length<=4077) :∃x y:UInt8,frB m=IW++(x::y::Ab m.Type_::m.Body)/\x.toNat*256+y.toNat=m.Body.length+19:=by
 obtain⟨x,y,h1,h2⟩:=Oq (n:=m.Body.length+19) (by omega)
 refine⟨x,y,?_,h2⟩
 unfold frB
 rw[h1]
 simp only[List.append_assoc,List.cons_append,List.nil_append]
theorem UP (l:List UInt8):Ei (IW++l)=true:=by
 unfold Ei
 rw[List.take_append_of_le_length (by rw[FM];exact Nat.le_refl _),show (16:Nat)=IW.length from FM.symm,List.take_length]
 rfl
theorem SN (l:List UInt8):(IW++l).drop 16=l:=by
 rw[show (16:Nat)=IW.length from FM.symm,List.drop_append_of_le_length (Nat.le_refl _),List.drop_length,List.nil_append]
theorem R7 {t:Int}(h:1<=t/\t<=5):((Ab t).toNat:Int)=t:=by
 obtain⟨k,rfl⟩ :∃k:Nat,t=k:=⟨t.toNat,by omega⟩
 rw[Bj,UInt8.toNat_ofNat']
 omega
theorem S7 {m:Ya}(ht:1<=m.Type_/\m.Type_<=5)(hm:m.Body.length<=4077)(e:List UInt8):paS (frB m++e)=(m,19+(m.Body.length:Int),0):=by
 obtain⟨x,y,h1,h2⟩:=Np m hm
 have hl:=Hw m
 have h3:=R7 ht
 unfold paS
 rw[h1,List.append_assoc,UP,if_pos rfl,SN]
 show paN _ x y (Ab m.Type_) (m.Body++e)=_
 unfold paN
 rw[h2,if_neg (by omega),if_neg (by rw[<- List.append_assoc,<- h1,X11];omega),h3,show m.Body.length+19-19=m.Body.length by omega,List.take_append_of_le_length (Nat.le_refl _),List.take_length]
 congr 2
 omega
theorem SR {m:Ya}(ht:1<=m.Type_/\m.Type_<=5)(hm:m.Body.length<=4077){c:Nat}(hc:c<(frB m).length):paS ((frB m).take c)=(z0,0,4):=by
 obtain⟨x,y,h1,h2⟩:=Np m hm
 have hl:=Hw m
 have ha:Ei ((frB m).take c)=true:=by
  have:=UP (x::y::Ab m.Type_::m.Body)
  rw[<- h1] at this
  unfold Ei at this ⊢
  rw[List.all_eq_true] at this ⊢
  intro z hz
  rw[List.take_take] at hz
  refine this z ?_
  have hz2:z∈((frB m).take 16).take c:=by rw[List.take_take,Nat.min_comm];exact hz
  exact List.mem_of_mem_take hz2
 unfold paS
 rw[ha,if_pos rfl]
 rcases Qe ((frB m).take c) with ⟨_,q⟩|⟨x',y',t',r',q1,q2⟩
 ·rw[q]
 rw[X18] at q2
 have q3:=q1
 rw[List.drop_take,h1,SN] at q3
 obtain⟨k,hk⟩ :∃k,c-16=k+3:=⟨c-19,by omega⟩
 rw[hk] at q3
 simp only[List.take_succ_cons,List.cons.injEq] at q3
 obtain⟨rfl,rfl,rfl,_⟩:=q3
 have h3:=R7 ht
 rw[q1]
 show paN _ x y (Ab m.Type_) r'=_
 unfold paN
 rw[h2,if_neg (by omega),if_pos (by rw[X18];omega)]
theorem Vp {b:List UInt8}{i:Nat}{v:UInt8}(hi:i<16)(hb:i<b.length)(hv:v≠255):paS (b.set i v)=(z0,0,12):=by
 have:Ei (b.set i v)=false:=by
  unfold Ei
  rw[List.all_eq_false]
  refine⟨v,?_,by simpa using hv⟩
  refine List.mem_of_getElem? (i:=i) ?_
  rw[List.getElem?_take_of_lt hi,List.getElem?_set_self hb]
 unfold paS
 rw[this]
 rfl
theorem H4 {b:List UInt8}{c:Bool}(h:¬ (!decide ((b.length:Int)<=600))=true):b.length<=600:=by
 cases h2:decide ((b.length:Int)<=600)
 ·rw[h2] at h;simp at h
 simp only[decide_eq_true_eq] at h2;omega
theorem updateCut (b:List UInt8)(k c at_ v:Int):B2 b k c at_ v=some true:=by
 have main:Ok (B2 b k c at_ v) fun r=>r=true:=by
  unfold B2
  rw[JC,AA]
  refine .ite (fun _=>?_) fun h=>?_
  ·rw[awake,AA]
   exact .ret rfl
  have hb:=H4 (c:=true) h
  refine .bind (Ag (by omega)) fun t ht=>?_
  rw[AZ (x:=1+t) (by omega),Ly (by dsimp only;omega),AA]
  obtain⟨m,hm⟩ :∃m:Ya,m=⟨1+t,b⟩:=⟨_,rfl⟩
  rw[<- hm]
  have m1:1<=m.Type_/\m.Type_<=5:=by rw[hm];dsimp only;omega
  have m2:m.Body=b:=by rw[hm]
  have hl:=Hw m
  rw[m2] at hl
  have e:frS m=(frB m,0):=by
   unfold frS
   rw[if_pos m1,if_pos (by rw[m2];omega)]
  rw[e]
  dsimp only
  rw[AG,bne_self_eq_false,if_neg (by decide)]
  have e2:((frB m).length:Int)=19+(b.length:Int):=by omega
  rw[AZ (x:=19+(b.length:Int)) (by omega)]
  have e3:(((frB m).length:Int) != 19+(b.length:Int))=false:=by rw[e2,bne_self_eq_false]
  rw[e3]
  show Ok (Option.bind (BF c ((frB m).length:Int)) _) _
  refine .bind (Ag (by omega)) fun n hn=>?_
  obtain⟨q,rfl⟩ :∃q:Nat,n=q:=⟨n.toNat,by omega⟩
  rw[F2 (by omega),AA,FC (by rw[X18];omega),AA,SR m1 (by rw[m2];omega) (by omega),AY (by decide) (by simp only[X13];omega),AA]
  refine .bind (Ag (by omega)) fun i hi=>.bind (Ag (by omega)) fun w hw=>.bind (.geti (by omega)) fun _ _=>?_
  obtain⟨j,rfl⟩ :∃j:Nat,i=j:=⟨i.toNat,by omega⟩
  obtain⟨w,rfl⟩ :∃j:Nat,w=j:=⟨w.toNat,by omega⟩
  have hs:seti (frB m) (j:Int) (Ab (w:Int))=some ((frB m).set j (Ab (w:Int))):=by
   unfold seti
   rw[if_pos (by omega),Int.toNat_natCast]
  have hv:Ab (w:Int)≠255:=by
   intro q
   have:=congrArg UInt8.toNat q
   rw[Bj,UInt8.toNat_ofNat'] at this
   have h255:(255:UInt8).toNat=255:=rfl
   omega
  rw[hs,AA,FC (by rw[X21];omega),AA,Vp (by omega) (by omega) hv,AG]
  dsimp only
  rw[if_pos (by rfl),if_pos (by rfl),if_pos (by rfl),if_pos (by rfl),awake,AA]
  exact .ret rfl
 obtain⟨r,h1,h2⟩:=main
 rw[h1,h2]
theorem Vf (m:Ya):(frS m).1.length<=4096:=by
 have:=Hw m
 unfold frS
 split
 ·split
  ·dsimp only;omega
  exact Nat.zero_le _
 exact Nat.zero_le _
theorem updateFrames (raw:Ya)(b:List UInt8)(k i v:Int):BO raw b k i v=some true:=by
 have main:Ok (BO raw b k i v) fun r=>r=true:=by
  unfold BO
  refine .join (fun c=>c=false->raw.Body.length<=600/\b.length<=600) (fun k1 hk1=>?_) fun c hc=>.ite (fun _=>?_) fun h=>?_
  ·rw[JC,AA]
   refine .ite (fun _=>hk1 _ fun q=>nomatch q) fun h=>?_
   rw[JC,AA]
   refine hk1 _ fun q=>⟨H4 (c:=true) h,H4 (c:=true) ?_⟩
   rw[show (!decide ((b.length:Int)<=600))=false from q]
   decide
  ·rw[awake,AA]
   exact .ret rfl
  obtain⟨hr,hb⟩:=hc (by simpa using h)
  refine .bind (Ag (by omega)) fun t ht=>.bind (Ag (by omega)) fun n hn=>?_
  rw[AZ (x:=4076+n) (by omega)]
  refine .bind (Ok.chk (by omega)) fun _ _=>?_
  refine .join (fun _=>True) (fun k8 hk8=>.for_ (fun _=>hk8 _ trivial) fun next z i _ _ hz hn=>?_) fun _ _=>?_
  ·have sz:z.Body.length<=1000000:=by
    simp only[List.mem_cons,List.not_mem_nil,or_false] at hz
    rcases hz with rfl | rfl | rfl
    ·omega
    ·dsimp only;omega
    simp only[X20];omega
   rw[Ly sz,AA,H3 sz]
   obtain⟨p,q⟩:=frS z
   dsimp only
   rw[AA]
   dsimp only
   rw[AG,beq_self_eq_true,if_neg (by decide),bne_self_eq_false]
   exact hn _
  refine .bind (Ag (by omega)) fun t2 ht2=>?_
  rw[AZ (x:=1+t2) (by omega),H3 (by dsimp only;omega),AA]
  have hfl:=Vf ⟨1+t2,b⟩
  obtain⟨F,fe,hF⟩ :∃F fe,frS ⟨1+t2,b⟩=(F,fe):=⟨_,_,rfl⟩
  rw[hF] at hfl ⊢
  dsimp only at hfl ⊢
  refine .bind (Im (by omega)) fun s1 hs1=>.bind (Ag (by omega)) fun m1 hm1=>.bind (Ag (by omega)) fun m2 hm2=>.bind (Im (by omega)) fun s2 hs2=>?_
  rw[AZ (x:=(F.length:Int)+1) (by omega)]
  refine .bind (Ag (by omega)) fun m3 hm3=>.bind (.part (by omega)) fun p hp=>.bind (Ok.apnd (by decide) (by simp only[X13];omega)) fun _ _=>.bind (Ok.apnd (by decide) (by omega)) fun w hw=>?_
  refine .join (fun _=>True) (fun k28 hk28=>.for_ (fun _=>hk28 _ trivial) fun next z i _ _ hz hn=>?_) fun _ _=>?_
  ·have sz:z.length<=1000000:=by
    simp only[List.mem_cons,List.not_mem_nil,or_false] at hz
    rcases hz with rfl | rfl | rfl | rfl | rfl | rfl
    ·omega
    ·omega
    ·omega
    ·omega
    ·omega
    rw[hw,X11];omega
   rw[FC sz,AA,Ss sz]
   obtain⟨p,q,s⟩:=paS z
   dsimp only
   rw[AA]
   dsimp only
   rw[AG,bne_self_eq_false,if_neg (by decide),beq_self_eq_true,if_neg (by decide),bne_self_eq_false,if_neg (by decide),bne_self_eq_false]
   exact hn _
  rw[awake,AA]
  exact .ret rfl
 obtain⟨r,h1,h2⟩:=main
 rw[h1,h2]
theorem JQ {F:List UInt8->List UInt8} :∀{l:List (List UInt8)},(∀x∈l,(F x).length<=700)->(l.flatMap F).length<=700*l.length
 | [],_=>Nat.le_refl _
 | x::t,h=>by
  have h1:=h x (by simp)
  have h2:=JQ (F:=F) (l:=t) fun y hy=>h y (X19 _ hy)
  rw[List.flatMap_cons,X11,X12]
  omega
theorem updateStream (a:List (List UInt8))(k c:Int):BN a k c=some true:=by
 have main:Ok (BN a k c) fun r=>r=true:=by
  unfold BN
  refine .ite (fun _=>?_) fun h=>?_
  ·rw[awake,AA]
   exact .ret rfl
  simp only[decide_eq_true_eq] at h
  obtain⟨t,ht,t1,t2⟩:=Ag (v:=k) (n:=5) (by omega)
  obtain⟨F,hF⟩ :∃F:List UInt8->List UInt8,F=fun x=>frB ⟨1+t,x⟩:=⟨_,rfl⟩
  have hFl :∀x,(F x).length=19+x.length:=fun x=>by rw[hF];exact Hw ⟨1+t,x⟩
  refine .join (fun v=>v=a.flatMap F/\∀x∈a,x.length<=600) (fun k2 hk2=>?_) fun v hv=>?_
  ·refine .forX (fun i s=>s=(a.take i).flatMap F/\∀x∈a.take i,x.length<=600) ⟨rfl,fun x hx=>by simp at hx⟩ (fun s hs=>hk2 _ (by rw[List.take_length] at hs;exact hs)) fun next x i s hx hI hn=>?_
   rw[JC,AA]
   refine .ite (fun _=>?_) fun h2=>?_
   ·rw[awake,AA]
    exact .ret rfl
   have hxl:=H4 (c:=true) h2
   rw[ht,AA,AZ (x:=1+t) (by omega),H3 (by dsimp only;omega),AA]
   have e:frS ⟨1+t,x⟩=(F x,0):=by
    unfold frS
    rw[if_pos (by dsimp only;omega),if_pos (by dsimp only;omega),hF]
   rw[e]
   dsimp only
   have hi:=(X16.1 hx).1
   have hs:s.length<=700*9:=by
    rw[hI.1]
    refine Nat.le_trans (JQ (F:=F) fun y hy=>?_) (Nat.mul_le_mul_left _ (by rw[X18];omega))
    have:=hI.2 y hy
    rw[hFl];omega
   refine .bind (Ok.apnd (by decide) (by rw[hFl];omega)) fun r hr=>hn _ ?_
   rw[List.take_add_one,hx,Option.toList_some,List.flatMap_append,hr,hI.1]
   refine⟨by simp,Ul hI.2 hxl⟩
  obtain⟨hv1,hv2⟩:=hv
  have hvl:v.length<=6300:=by
   rw[hv1]
   refine Nat.le_trans (JQ (F:=F) fun y hy=>?_) (Nat.mul_le_mul_left 700 (show a.length<=9 by omega))
   have:=hv2 y hy
   rw[hFl];omega
  refine .bind (Ag (by omega)) fun n hn=>?_
  obtain⟨n,rfl⟩ :∃q:Nat,n=q:=⟨n.toNat,by omega⟩
  obtain⟨N,hN⟩ :∃N:Ya,N=⟨4,[]⟩:=⟨_,rfl⟩
  have hNl:(frB N).length=19:=by rw[Hw,hN];rfl
  have e4:frS N=(frB N,0):=by
   unfold frS
   rw[if_pos (by rw[hN];decide),if_pos (by rw[hN];decide)]
  rw[<- hN,H3 (by rw[hN];decide),AA,e4]
  dsimp only
  rw[F2 (by omega),AA,AY (by decide) (by rw[X18];omega),AA]
  obtain⟨T,hT⟩ :∃T,T=(frB N).take n:=⟨_,rfl⟩
  have hTl:T.length<=19:=by rw[hT,X18];omega
  rw[<- hT]
  refine .join (fun s:List UInt8×Int=>s=(T,0)) (fun k19 hk19=>?_) ?_
  ·refine .forX (fun i (s:List UInt8×Int)=>s.1=(a.drop i).flatMap F++T/\s.2=(((a.drop i).flatMap F).length:Int)) ⟨by rw[hv1];rfl,by rw[hv1];rfl⟩ (fun s hs=>hk19 _ ?_) fun next x i s hx hI hn=>?_
   ·rw[List.drop_length] at hs
    exact Prod.ext hs.1 hs.2
   have hi:=(X16.1 hx).1
   have hd:a.drop i=x::a.drop (i+1):=by
    rw[<- (X16.1 hx).2]
    exact List.drop_eq_getElem_cons hi
   have hxl:=hv2 x (List.mem_of_getElem? hx)
   have hrl:((a.drop (i+1)).flatMap F).length<=6300:=by
    refine Nat.le_trans (JQ (F:=F) fun y hy=>?_) (Nat.mul_le_mul_left 700 (show (a.drop (i+1)).length<=9 by rw[X17];omega))
    have:=hv2 y (List.mem_of_mem_drop hy)
    rw[hFl];omega
   obtain⟨b,w⟩:=s
   obtain⟨I1,I2⟩:=hI
   dsimp only at I1 I2 ⊢
   rw[hd,List.flatMap_cons] at I1 I2
   have hbl:b.length=19+x.length+((a.drop (i+1)).flatMap F).length+T.length:=by
    rw[I1];simp only[X11,hFl]
   rw[FC (by omega),AA]
   have hp:paS b=(⟨1+t,x⟩,19+(x.length:Int),0):=by
    rw[I1,List.append_assoc,hF]
    exact S7 (by dsimp only;omega) (by dsimp only;omega) _
   rw[hp]
   dsimp only
   have hlt:decide (19+(x.length:Int) > (b.length:Int))=false:=by rw[decide_eq_false_iff_not];omega
   rw[AG,bne_self_eq_false,if_neg (by decide),beq_self_eq_true,if_neg (by decide),AZ (x:=19+(x.length:Int)) (by omega),bne_self_eq_false,if_neg (by decide),hlt]
   show Ok (Option.bind (part b (19+(x.length:Int)) (b.length:Int)) _) _
   have hpt:part b (19+(x.length:Int)) (b.length:Int)=some ((a.drop (i+1)).flatMap F++T):=by
    have:=QK (l:=b) (n:=19+x.length) (by omega)
    rw[show (19+(x.length:Int))=((19+x.length:Nat):Int) by omega,this,I1,List.append_assoc,List.drop_append_of_le_length (by rw[hFl];omega),List.drop_eq_nil_of_le (by rw[hFl];omega),List.nil_append]
   rw[hpt,AA]
   refine hn _ ⟨rfl,?_⟩
   dsimp only
   rw[I2,X11,hFl,AZ (by omega)]
   omega
  rintro _ rfl
  dsimp only
  rw[FC (by omega),AA,hT,SR (by rw[hN];decide) (by rw[hN];decide) (by omega),AG]
  dsimp only
  rw[if_pos (by rfl),if_pos (by rfl),awake,AA]
  exact .ret rfl
 obtain⟨r,h1,h2⟩:=main
 rw[h1,h2]
theorem M5 (a:List (List UInt8))(k c:Int){p:Prop}(_:p)(_:I64 k)(_:I64 c):BN a k c=some true:=updateStream a k c
theorem M6 (m:Ya)(b:List UInt8)(k i v:Int){p q:Prop}(_:p)(_:q)(_:I64 k)(_:I64 i)(_:I64 v):BO m b k i v=some true:=updateFrames m b k i v
theorem RZ (b:List UInt8)(k c i v:Int){p:Prop}(_:p)(_:I64 k)(_:I64 c)(_:I64 i)(_:I64 v):B2 b k c i v=some true:=updateCut b k c i v
end Go.AX.Q19
end
section
namespace Go.AX.Q19
open Go Go.AX Go.Proofs
variable {wl:Prop}
theorem Lr {r:YY}(h:Ds=some r):yC wl 17 [] [] (.d (YY.toD r)) []:=by
 refine oK Tryz.f17 ⟨rfl,?_⟩;unfold Ds at h;cases h;exact⟨rfl,rfl⟩
theorem A5 {a0:Int}{a1:Int}{r:Int}(h:BF a0 a1=some r):yC wl 14 [AV.d (D.i a0),AV.d (D.i a1)] [] (.d (D.i r)) []:=by
 refine oK Tryz.f14 ⟨rfl,?_⟩;unfold BF at h;obtain⟨_,g1,h⟩:=AC h;refine⟨Dz g1,_,rfl,?_⟩;revert h;refine AI (fun v2=>⟨dd 5 (yi v2::dd 9 ([])),nn 15 ([])⟩) ?_ ?_
 ·intro k3 h;refine sJ h (fun h=>?_) fun h=>AD wk h;refine⟨_,rfl,?_⟩;exact AD wk h
 rintro v2 h;cases h;exact⟨rfl,rfl⟩
theorem IF {a0:List UInt8}{a1:Int}{r:(List UInt8)}(h:EC a0 a1=some r):yC wl 87 [AV.own 0 (List.map D.u8 a0).length,AV.d (D.i a1)] [.row 5 1 (List.map D.u8 a0) .no] (AV.own 0 (List.map D.u8 r).length) [.row 5 1 (List.map D.u8 r) .no]:=by
 refine oK Tryz.f87 ⟨rfl,?_⟩;unfold EC at h;refine⟨by decide,_,rfl,?_⟩;refine⟨_,Ak _,?_⟩;refine⟨_,Ak _,?_⟩;refine⟨rfl,?_⟩;obtain⟨v1,g2,h⟩:=AC h;refine⟨rfl,Am (f:=D.u8) (g:=D.u8) g2,_,Ap (f:=D.u8) g2,?_⟩;(conv=>whnf);refine .inl ?_;cases h;exact⟨rfl,rfl⟩
theorem BI {a0:Int}{a1:Int}{a2:Int}{r:Bool}(h:Au a0 a1 a2=some r):yC wl 118 [AV.d (D.i a0),AV.d (D.i a1),AV.d (D.i a2)] [] (.d (D.b r)) []:=by
 refine oK Tryz.f118 ⟨rfl,?_⟩;unfold Au at h;revert h;refine AI (fun v1=>⟨dd 6 (yb v1::dd 8 ([])),nn 15 ([])⟩) ?_ ?_
 ·intro k2 h;exact sJ h (fun h=>AD wk h) fun h=>AD wk h
 rintro v1 h;cases h;exact⟨rfl,rfl⟩
theorem Iz {a0:List YX}{r:(List UInt8)×Int}(h:Cm a0=some r):yC wl 94 [AV.d (D.l 3 YX.toD a0)] [] (.tup [.d (D.l 1 D.u8 r.1),.d (D.i r.2)]) []:=by
 refine oK Tryz.f94 ⟨rfl,?_⟩;unfold Cm at h;refine⟨a0.length,X10 _,?_⟩;revert h;refine AI (fun _=>⟨y0 a0::dd 79 ([]),nn 80 ([])⟩) ?_ ?_
 ·intro k1 h;revert h;refine A8 11 3 YX.toD rfl (fun i2 _=>⟨y0 a0::dd 10 (y0 a0::yi (a0.length:Int)::yi (i2:Int)::dd 66 ([])),nn 80 ([])⟩) ?_ ?_ ?_
  ·exact wk
  ·rintro _ K3 h;(conv=>whnf);refine .go ?_;(conv=>whnf);refine DV Fg ?_;exact AD wk h
  rintro next4 i2 x5 _ K3 hii2 hxi2 hwi2 h hK6;(conv=>whnf);refine .go ?_;(conv=>whnf);refine Cf (FD hii2) ?_;(conv=>whnf);refine .go ?_;refine⟨C5 (f:=YX.toD) hii2,YX.toD x5,hxi2,rfl,?_⟩;revert h;refine AI (fun v7=>⟨y0 a0::dd 10 (y0 a0::yi (a0.length:Int)::yi (i2:Int)::dd 18 (yb v7::dd 47 ([]))),nn 80 ([])⟩) ?_ ?_
  ·intro k8 h;obtain⟨v9,g10,h⟩:=AC h;refine⟨_,_,some [],BI g10,?_⟩;refine sJ h (fun h=>AD wk h) fun h=>?_;obtain⟨v11,g12,h⟩:=AC h;refine⟨_,_,some [],BI g12,?_⟩;refine sJ h (fun h=>AD wk h) fun h=>?_;refine⟨x5.Data.length,X10 _,?_⟩;exact AD wk h
  rintro v7 h;(conv=>whnf);refine .go ?_;refine sJ h ?_ ?_<;>intro h
  ·(conv=>whnf);refine .inl ?_;refine⟨rfl,?_⟩;cases h;exact⟨rfl,rfl⟩
  refine⟨_,hwi2,?_⟩;exact hK6 _ _ wk h
 rintro _ h;refine⟨a0.length,X10 _,?_⟩;revert h;refine AI (fun v13=>⟨dd 6 (yO 6 D.u8 v13::dd 73 ([])),nn 6 (yR 5 1 D.u8 v13::nn 73 ([]))⟩) ?_ ?_
 ·intro k14 h;revert h;refine A8 34 3 YX.toD rfl (fun i15 v16=>⟨dd 6 (yO 6 D.u8 v16::dd 27 (y0 a0::yi (a0.length:Int)::yi (i15:Int)::dd 43 ([]))),nn 6 (yR 5 1 D.u8 v16::nn 73 ([]))⟩) ?_ ?_ ?_
  ·exact wk
  ·rintro v16 K17 h;(conv=>whnf);refine .go ?_;(conv=>whnf);refine DV Fg ?_;exact AD wk h
  rintro next18 i15 x19 v16 K17 hii15 hxi15 hwi15 h hK20;(conv=>whnf);refine .go ?_;(conv=>whnf);refine Cf (FD hii15) ?_;(conv=>whnf);refine .go ?_;refine⟨C5 (f:=YX.toD) hii15,YX.toD x19,hxi15,rfl,?_⟩;(conv=>whnf);refine .inl (dO ?_);refine⟨_,Ak _,?_⟩;refine⟨_,Ak _,?_⟩;refine⟨x19.Data.length,X10 _,?_⟩;(conv=>whnf);refine cO ?_;revert h;refine AI (fun v21=>⟨dd 6 (yO 6 D.u8 v21::X::yr 8 0::dd 25 (y0 a0::yi (a0.length:Int)::yi (i15:Int)::dd 43 ([]))),nn 6 (yR 5 1 D.u8 v21::N::yB (YX.av x19)::nn 71 ([]))⟩) ?_ ?_
  ·intro k22 h;refine sJ h ?_ ?_<;>intro h
   ·refine⟨_,Ak _,?_⟩;refine⟨_,Ak _,?_⟩;refine⟨by decide,_,rfl,?_⟩;refine⟨_,Ak _,?_⟩;refine⟨_,Ak _,?_⟩;refine⟨rfl,?_⟩;obtain⟨v23,g24,h⟩:=AC h;refine⟨rfl,Am (f:=D.u8) (g:=D.u8) g24,_,Ap (f:=D.u8) g24,?_⟩;exact AD wk h
   refine⟨_,Ak _,?_⟩;refine⟨_,Ak _,?_⟩;refine⟨rfl,?_⟩;obtain⟨v25,g26,h⟩:=AC h;refine⟨rfl,Am (f:=D.u8) (g:=D.u8) g26,_,Ap (f:=D.u8) g26,?_⟩;exact AD wk h
  rintro v21 h;obtain⟨v27,g28,h⟩:=AC h;refine⟨rfl,Am (f:=D.u8) (g:=D.u8) g28,_,Ap (f:=D.u8) g28,?_⟩;refine⟨v27.length,by first | exact X10 _ | rfl | (simp only[X10];omega),?_⟩;(conv=>whnf);refine .go ?_;refine sJ h ?_ ?_<;>intro h
  ·(conv=>whnf);refine .inl ?_;refine⟨rfl,?_⟩;cases h;exact⟨rfl,rfl⟩
  refine⟨_,hwi15,?_⟩;exact hK20 _ _ wk h
 rintro v13 h;(conv=>whnf);refine .inl ?_;refine⟨rfl,?_⟩;cases h;exact⟨rfl,rfl⟩
theorem Fa {a0:Addr}{r:Bool}(h:Db a0=some r):yC wl 99 [AV.d (Addr.toD a0)] [] (.d (D.b r)) []:=by
 refine oK Tryz.f99 ⟨rfl,?_⟩;unfold Db at h;revert h;refine AI (fun v1=>⟨X::X::yb v1::dd 12 ([]),nn 15 ([])⟩) ?_ ?_
 ·intro k2 h;refine sJ h (fun h=>AD wk h) fun h=>?_;exact sJ h (fun h=>AD wk h) fun h=>AD wk h
 rintro v1 h;cases h;exact⟨rfl,rfl⟩
theorem DT {a0:Addr}{r:(List UInt8)}(h:Ar a0=some r):yC wl 135 [AV.d (Addr.toD a0)] [] (.d (D.l 1 D.u8 r)) []:=by
 refine oK Tryz.f135 ⟨rfl,?_⟩;unfold Ar at h;obtain⟨v1,g2,h⟩:=AC h;refine⟨_,_,some [],Fa g2,?_⟩;(conv=>whnf);refine .go ?_;refine sJ h ?_ ?_<;>intro h
 ·(conv=>whnf);refine .inl ?_;cases h;exact⟨rfl,rfl⟩
 revert h;refine AI (fun v3=>⟨X::yr 1 0::X::yi v3::dd 34 ([]),N::yB (Addr.av a0)::nn 36 ([])⟩) ?_ ?_
 ·intro k4 h;exact sJ h (fun h=>AD wk h) fun h=>AD wk h
 rintro v3 h;obtain⟨_,g5,h⟩:=AC h;refine⟨Qg g5 (X29 rfl),D.u8 (0:UInt8),rfl,(List.map D.u8 (List.replicate (Int.toNat v3) (0:UInt8))),List.map_replicate.symm,?_⟩;refine⟨_,rfl,?_⟩;revert h;refine AI (fun v6=>⟨dd 4 (yO 12 D.u8 v6::dd 33 ([])),nn 12 (yR 5 1 D.u8 v6::nn 25 ([]))⟩) ?_ ?_
 ·intro k7 h;revert h;refine E5 (fun (v8,v9,v10)=>⟨X::yr 1 0::X::X::yO 12 D.u8 v10::yi v8::dd 32 ([]),N::yB (Addr.av v9)::nn 10 (yR 5 1 D.u8 v10::nn 25 ([]))⟩) ?_ ?_
  ·exact wk
  rintro next11 ⟨v8,v9,v10⟩ K12 h hK13;(conv=>whnf);refine .go ?_;refine sJ h (fun h=>?_) fun h=>AD wk h;(conv=>whnf);refine .go ?_;refine⟨_,Ak _,?_⟩;obtain⟨v14,g15,h⟩:=AC h;refine⟨rfl,CJ (f:=D.u8) g15,?_⟩;obtain⟨v16,g17,h⟩:=AC h;have g17l:=LO g17;refine⟨rfl,rfl,D.u8 v14,(CM (f:=D.u8) g15),?_⟩;refine⟨_,Q2 (f:=D.u8) g17,?_⟩;refine⟨by decide,_,Gp v9.Lo _,?_⟩;refine⟨by decide,_,Aw _,?_⟩;refine⟨_,Aw _,?_⟩;refine⟨by decide,_,Gp v9.Hi _,?_⟩;refine⟨_,rfl,?_⟩;exact hK13 _ _ wk h
 rintro v6 h;(conv=>whnf);refine .inl ?_;(conv=>whnf);refine .inl ?_;refine⟨rfl,?_⟩;cases h;exact⟨rfl,rfl⟩
theorem G1 {a0:List UInt8}{a1:List Yb}{a2:Bool}{r:(List UInt8)}(h:CQ a0 a1 a2=some r):yC wl 96 [AV.own 0 (List.map D.u8 a0).length,AV.d (D.l 4 Yb.toD a1),AV.d (D.b a2)] [.row 5 1 (List.map D.u8 a0) .no] (AV.own 0 (List.map D.u8 r).length) [.row 5 1 (List.map D.u8 r) .no]:=by
 refine oK Tryz.f96 ⟨rfl,?_⟩;unfold CQ at h;refine⟨a1.length,X10 _,?_⟩;revert h;refine AI (fun v1=>⟨yO 0 D.u8 v1::dd 36 ([]),yR 5 1 D.u8 v1::nn 37 ([])⟩) ?_ ?_
 ·intro k2 h;revert h;refine A8 9 4 Yb.toD rfl (fun i3 v4=>⟨yO 0 D.u8 v4::X::yb a2::dd 6 (y1 a1::yi (a1.length:Int)::yi (i3:Int)::dd 25 ([])),yR 5 1 D.u8 v4::nn 37 ([])⟩) ?_ ?_ ?_
  ·exact wk
  ·rintro v4 K5 h;(conv=>whnf);refine .go ?_;(conv=>whnf);refine DV Fg ?_;exact AD wk h
  rintro next6 i3 x7 v4 K5 hii3 hxi3 hwi3 h hK8;(conv=>whnf);refine .go ?_;(conv=>whnf);refine Cf (FD hii3) ?_;(conv=>whnf);refine .go ?_;refine⟨C5 (f:=Yb.toD) hii3,Yb.toD x7,hxi3,rfl,?_⟩;revert h;refine AI (fun v9=>⟨yO 0 D.u8 v9::X::yb a2::dd 6 (y1 a1::yi (a1.length:Int)::yi (i3:Int)::dd 25 ([])),yR 5 1 D.u8 v9::nn 37 ([])⟩) ?_ ?_
  ·intro k10 h;refine sJ h (fun h=>?_) fun h=>AD wk h;(conv=>whnf);refine .inl (dO ?_);refine⟨_,Ak _,?_⟩;refine⟨rfl,?_⟩;obtain⟨v11,g12,h⟩:=AC h;refine⟨rfl,Am (f:=D.u8) (g:=D.u8) g12,_,Ap (f:=D.u8) g12,?_⟩;obtain⟨v13,g14,h⟩:=AC h;refine⟨_,_,DT g14,.inl rfl,?_⟩;refine⟨_,rfl,?_⟩;refine⟨by decide,_,rfl,?_⟩;obtain⟨v15,g16,h⟩:=AC h;refine⟨Eh (f:=D.u8) g16,_,Ek (f:=D.u8) g16,?_⟩;obtain⟨v17,g18,h⟩:=AC h;refine⟨rfl,Am (f:=D.u8) (g:=D.u8) g18,_,Ap (f:=D.u8) g18,?_⟩;(conv=>whnf);refine cO ?_;exact AD wk h
  rintro v9 h;refine⟨_,hwi3,?_⟩;exact hK8 _ _ wk h
 rintro v1 h;(conv=>whnf);refine .inl ?_;cases h;exact⟨rfl,rfl⟩
theorem F9 {a0:Int}{r:Bool}(h:CX a0=some r):yC wl 139 [AV.d (D.i a0)] [] (.d (D.b r)) []:=by
 refine oK Tryz.f139 ⟨rfl,?_⟩;unfold CX at h;revert h;refine AI (fun v1=>⟨X::X::yb v1::dd 6 ([]),nn 9 ([])⟩) ?_ ?_
 ·intro k2 h;exact sJ h (fun h=>AD wk h) fun h=>AD wk h
 rintro v1 h;cases h;exact⟨rfl,rfl⟩
theorem Ko {a0:List Yd}{r:Bool}(h:D1 a0=some r):yC wl 138 [AV.d (D.l 2 Yd.toD a0)] [] (.d (D.b r)) []:=by
 refine oK Tryz.f138 ⟨rfl,?_⟩;unfold D1 at h;refine⟨a0.length,X10 _,?_⟩;revert h;refine AI (fun v1=>⟨X::X::X::yi v1::dd 71 ([]),nn 75 ([])⟩) ?_ ?_
 ·intro k2 h;revert h;refine A8 8 2 Yd.toD rfl (fun i3 v4=>⟨y2 a0::X::X::yi v4::dd 4 (y2 a0::yi (a0.length:Int)::yi (i3:Int)::dd 64 ([])),nn 75 ([])⟩) ?_ ?_ ?_
  ·exact wk
  ·rintro v4 K5 h;(conv=>whnf);refine .go ?_;(conv=>whnf);refine DV Fg ?_;exact AD wk h
  rintro next6 i3 x7 v4 K5 hii3 hxi3 hwi3 h hK8;(conv=>whnf);refine .go ?_;(conv=>whnf);refine Cf (FD hii3) ?_;revert h;refine AI (fun _=>⟨y2 a0::X::X::yi (AT (v4+(x7.ASNs.length:Int)))::dd 4 (y2 a0::yi (a0.length:Int)::yi (i3:Int)::dd 64 ([])),nn 75 ([])⟩) ?_ ?_
  ·intro k9 h;refine⟨C5 (f:=Yd.toD) hii3,Yd.toD x7,hxi3,rfl,?_⟩;revert h;refine AI (fun v10=>⟨y2 a0::X::X::yi v4::X::yr 5 0::X::X::y2 a0::yi (a0.length:Int)::yi (i3:Int)::dd 25 (yb v10::dd 38 ([])),nn 5 (yB (Yd.av x7)::nn 69 ([]))⟩) ?_ ?_
   ·intro k11 h;refine⟨x7.ASNs.length,X10 _,?_⟩;refine sJ h (fun h=>AD wk h) fun h=>?_;refine sJ h (fun h=>?_) fun h=>AD wk h;refine sJ h (fun h=>?_) fun h=>AD wk h;refine⟨_,rfl,?_⟩;obtain⟨v12,g13,h⟩:=AC h;refine⟨CJ (f:=Yd.toD) g13,Yd.toD v12,CM (f:=Yd.toD) g13,rfl,?_⟩;exact AD wk h
   rintro v10 h;(conv=>whnf);refine .go ?_;refine sJ h ?_ ?_<;>intro h
   ·cases h;exact⟨rfl,rfl⟩
   refine⟨x7.ASNs.length,X10 _,?_⟩;revert h;refine AI (fun _=>⟨y2 a0::X::X::yi v4::X::yr 5 0::X::X::y2 a0::yi (a0.length:Int)::yi (i3:Int)::dd 64 ([]),nn 5 (yB (Yd.av x7)::nn 69 ([]))⟩) ?_ ?_
   ·intro k14 h;revert h;refine A8 38 1 D.i rfl (fun i15 _=>⟨y2 a0::X::X::yi v4::X::yr 5 0::X::X::y2 a0::yi (a0.length:Int)::yi (i3:Int)::dd 27 (AV.d (D.l 1 D.i x7.ASNs)::yi (x7.ASNs.length:Int)::yi (i15:Int)::dd 34 ([])),nn 5 (yB (Yd.av x7)::nn 69 ([]))⟩) ?_ ?_ ?_
    ·exact wk
    ·rintro _ K16 h;(conv=>whnf);refine .go ?_;(conv=>whnf);refine DV Fg ?_;exact AD wk h
    rintro next17 i15 x18 _ K16 hii15 hxi15 hwi15 h hK19;(conv=>whnf);refine .go ?_;(conv=>whnf);refine Cf (FD hii15) ?_;(conv=>whnf);refine .go ?_;refine⟨C5 (f:=D.i) hii15,D.i x18,hxi15,rfl,?_⟩;revert h;refine AI (fun v20=>⟨y2 a0::X::X::yi v4::X::yr 5 0::X::X::y2 a0::yi (a0.length:Int)::yi (i3:Int)::dd 27 (AV.d (D.l 1 D.i x7.ASNs)::yi (x7.ASNs.length:Int)::yi (i15:Int)::dd 24 (yb v20::dd 9 ([]))),nn 5 (yB (Yd.av x7)::nn 69 ([]))⟩) ?_ ?_
    ·intro k21 h;obtain⟨v22,g23,h⟩:=AC h;refine⟨_,_,some [],F9 g23,?_⟩;refine sJ h (fun h=>AD wk h) fun h=>?_;refine sJ h (fun h=>?_) fun h=>AD wk h;refine sJ h (fun h=>?_) fun h=>AD wk h;refine⟨_,rfl,?_⟩;obtain⟨v24,g25,h⟩:=AC h;refine⟨CJ (f:=D.i) g25,D.i v24,CM (f:=D.i) g25,rfl,?_⟩;exact AD wk h
    rintro v20 h;(conv=>whnf);refine .go ?_;refine sJ h ?_ ?_<;>intro h
    ·cases h;exact⟨rfl,rfl⟩
    refine⟨_,hwi15,?_⟩;exact hK19 _ _ wk h
   rintro _ h;refine⟨x7.ASNs.length,X10 _,?_⟩;refine⟨_,rfl,?_⟩;exact AD wk h
  rintro _ h;refine⟨_,hwi3,?_⟩;exact hK8 _ _ wk h
 rintro v1 h;cases h;exact⟨rfl,rfl⟩
theorem G6 {a0:List Int}{r:Int}(h:Bo a0=some r):yC wl 188 [AV.d (D.l 1 D.i a0)] [] (.d (D.i r)) []:=by
 refine oK Tryz.f188 ⟨rfl,?_⟩;unfold Bo at h;refine⟨a0.length,X10 _,?_⟩;(conv=>whnf);refine .go ?_;refine sJ h ?_ ?_<;>intro h
 ·exact nomatch h
 obtain⟨v1,g2,h⟩:=AC h;refine⟨CJ (f:=D.i) g2,D.i v1,CM (f:=D.i) g2,rfl,?_⟩;revert h;refine AI (fun v3=>⟨X::X::X::yi v3::dd 21 ([]),nn 25 ([])⟩) ?_ ?_
 ·intro k4 h;revert h;refine E5 (fun (v5,v6)=>⟨y3 a0::X::X::yi v5::yi v6::dd 20 ([]),nn 25 ([])⟩) ?_ ?_
  ·exact wk
  rintro next7 ⟨v5,v6⟩ K8 h hK9;refine⟨a0.length,X10 _,?_⟩;(conv=>whnf);refine .go ?_;refine sJ h (fun h=>?_) fun h=>AD wk h;(conv=>whnf);refine .go ?_;obtain⟨v10,g11,h⟩:=AC h;refine⟨CJ (f:=D.i) g11,D.i v10,CM (f:=D.i) g11,rfl,?_⟩;refine⟨_,rfl,?_⟩;refine⟨_,rfl,?_⟩;exact hK9 _ _ wk h
 rintro v3 h;cases h;exact⟨rfl,rfl⟩
theorem G5 {a0:List Int}{r:Int}(h:Bq a0=some r):yC wl 189 [AV.d (D.l 1 D.i a0)] [] (.d (D.i r)) []:=by
 refine oK Tryz.f189 ⟨rfl,?_⟩;unfold Bq at h;refine⟨a0.length,X10 _,?_⟩;(conv=>whnf);refine .go ?_;refine sJ h ?_ ?_<;>intro h
 ·exact nomatch h
 obtain⟨v1,g2,h⟩:=AC h;refine⟨CJ (f:=D.i) g2,D.i v1,CM (f:=D.i) g2,rfl,?_⟩;revert h;refine AI (fun v3=>⟨X::X::X::yi v3::dd 21 ([]),nn 25 ([])⟩) ?_ ?_
 ·intro k4 h;revert h;refine E5 (fun (v5,v6)=>⟨y3 a0::X::X::yi v5::yi v6::dd 20 ([]),nn 25 ([])⟩) ?_ ?_
  ·exact wk
  rintro next7 ⟨v5,v6⟩ K8 h hK9;refine⟨a0.length,X10 _,?_⟩;(conv=>whnf);refine .go ?_;refine sJ h (fun h=>?_) fun h=>AD wk h;(conv=>whnf);refine .go ?_;obtain⟨v10,g11,h⟩:=AC h;refine⟨CJ (f:=D.i) g11,D.i v10,CM (f:=D.i) g11,rfl,?_⟩;refine⟨_,rfl,?_⟩;refine⟨_,rfl,?_⟩;exact hK9 _ _ wk h
 rintro v3 h;cases h;exact⟨rfl,rfl⟩
theorem Eo {a0:Int}{a1:List Int}{r:Bool}(h:Bh a0 a1=some r):yC wl 181 [AV.d (D.i a0),AV.d (D.l 1 D.i a1)] [] (.d (D.b r)) []:=by
 refine oK Tryz.f181 ⟨rfl,?_⟩;unfold Bh at h;revert h;refine AI (fun v1=>⟨dd 4 (yb v1::dd 9 ([])),nn 14 ([])⟩) ?_ ?_
 ·intro k2 h;obtain⟨v3,g4,h⟩:=AC h;refine⟨_,_,some [],G6 g4,?_⟩;refine sJ h (fun h=>?_) fun h=>AD wk h;obtain⟨v5,g6,h⟩:=AC h;refine⟨_,_,some [],G5 g6,?_⟩;exact AD wk h
 rintro v1 h;cases h;exact⟨rfl,rfl⟩
theorem Ix {a0:YZ}{r:Bool}(h:Cj a0=some r):yC wl 163 [AV.d (YZ.toD a0)] [] (.d (D.b r)) []:=by
 refine oK Tryz.f163 ⟨rfl,?_⟩;unfold Cj at h;refine⟨rfl,?_⟩;obtain⟨v1,g2,h⟩:=AC h;refine⟨_,_,none,Eo g2,?_⟩;cases h;exact⟨rfl,rfl⟩
theorem Fv {a0:Int}{r:Bool}(h:cmp_isNaN_int a0=some r):yC wl 151 [AV.d (D.i a0)] [] (.d (D.b r)) []:=by
 refine oK Tryz.f151 ⟨rfl,?_⟩;unfold cmp_isNaN_int at h;cases h;exact⟨rfl,rfl⟩
theorem BA {a0:Int}{a1:Int}{r:Int}(h:cmp_Compare_int a0 a1=some r):yC wl 122 [AV.d (D.i a0),AV.d (D.i a1)] [] (.d (D.i r)) []:=by
 refine oK Tryz.f122 ⟨rfl,?_⟩;unfold cmp_Compare_int at h;obtain⟨v1,g2,h⟩:=AC h;refine⟨_,_,some [],Fv g2,?_⟩;obtain⟨v3,g4,h⟩:=AC h;refine⟨_,_,some [],Fv g4,?_⟩;(conv=>whnf);refine .go ?_;refine sJ h ?_ ?_<;>intro h
 ·(conv=>whnf);refine .go ?_;refine sJ h ?_ ?_<;>intro h
  ·cases h;exact⟨rfl,rfl⟩
  cases h;exact⟨rfl,rfl⟩
 (conv=>whnf);refine .go ?_;refine sJ h ?_ ?_<;>intro h
 ·cases h;exact⟨rfl,rfl⟩
 (conv=>whnf);refine .go ?_;refine sJ h ?_ ?_<;>intro h
 ·cases h;exact⟨rfl,rfl⟩
 (conv=>whnf);refine .go ?_;refine sJ h ?_ ?_<;>intro h
 ·cases h;exact⟨rfl,rfl⟩
 cases h;exact⟨rfl,rfl⟩
theorem IE {a0:List Int}{r:Int}(h:EE a0=some r):yC wl 182 [AV.d (D.l 1 D.i a0)] [] (.d (D.i r)) []:=by
 refine oK Tryz.f182 ⟨rfl,?_⟩;unfold EE at h;refine⟨a0.length,X10 _,?_⟩;revert h;refine AI (fun _=>⟨X::X::X::yi 0::dd 14 ([]),nn 18 ([])⟩) ?_ ?_
 ·intro k1 h;revert h;refine A8 6 1 D.i rfl (fun i2 _=>⟨X::X::X::yi 0::X::X::y3 a0::yi (a0.length:Int)::yi (i2:Int)::dd 9 ([]),nn 18 ([])⟩) ?_ ?_ ?_
  ·exact wk
  ·rintro _ K3 h;(conv=>whnf);refine .go ?_;(conv=>whnf);refine DV Fg ?_;exact AD wk h
  rintro next4 i2 x5 _ K3 hii2 hxi2 hwi2 h hK6;(conv=>whnf);refine .go ?_;(conv=>whnf);refine Cf (FD hii2) ?_;(conv=>whnf);refine .go ?_;refine⟨C5 (f:=D.i) hii2,D.i x5,hxi2,rfl,?_⟩;(conv=>whnf);refine .go ?_;refine sJ h ?_ ?_<;>intro h
  ·cases h;exact⟨rfl,rfl⟩
  refine⟨_,hwi2,?_⟩;exact hK6 _ _ wk h
 rintro _ h;cases h;exact⟨rfl,rfl⟩
theorem Hr {a0:YZ}{a1:YZ}{r:Int}(h:B9 a0 a1=some r):yC wl 164 [AV.d (YZ.toD a0),AV.d (YZ.toD a1)] [] (.d (D.i r)) []:=by
 refine oK Tryz.f164 ⟨rfl,?_⟩;unfold B9 at h;(conv=>whnf);refine .inl (dO ?_);obtain⟨v1,g2,h⟩:=AC h;refine⟨_,_,BA g2,.inl rfl,?_⟩;obtain⟨v3,g4,h⟩:=AC h;refine⟨_,_,BA g4,.inl rfl,?_⟩;refine⟨rfl,?_⟩;obtain⟨v5,g6,h⟩:=AC h;refine⟨_,_,IE g6,.inl rfl,?_⟩;(conv=>whnf);refine cO ?_;cases h;exact⟨rfl,rfl⟩
theorem A6 {a0:List YZ}{r:Bool}(h:AS a0=some r):yC wl 162 [AV.d (D.l 2 YZ.toD a0),AV.fn 163 [],AV.fn 164 []] [] (.d (D.b r)) []:=by
 refine oK Tryz.f162 ⟨rfl,?_⟩;unfold AS at h;refine⟨a0.length,X10 _,?_⟩;revert h;refine AI (fun _=>⟨y4 a0::dd 38 ([]),nn 39 ([])⟩) ?_ ?_
 ·intro k1 h;revert h;refine A8 9 2 YZ.toD rfl (fun i2 _=>⟨y4 a0::AV.fn 163 []::AV.fn 164 []::dd 6 (y4 a0::yi (a0.length:Int)::yi (i2:Int)::dd 27 ([])),nn 39 ([])⟩) ?_ ?_ ?_
  ·exact wk
  ·rintro _ K3 h;(conv=>whnf);refine .go ?_;(conv=>whnf);refine DV Fg ?_;exact AD wk h
  rintro next4 i2 x5 _ K3 hii2 hxi2 hwi2 h hK6;(conv=>whnf);refine .go ?_;(conv=>whnf);refine Cf (FD hii2) ?_;(conv=>whnf);refine .go ?_;refine⟨C5 (f:=YZ.toD) hii2,YZ.toD x5,hxi2,rfl,?_⟩;revert h;refine AI (fun v7=>⟨y4 a0::AV.fn 163 []::AV.fn 164 []::dd 6 (y4 a0::yi (a0.length:Int)::yi (i2:Int)::dd 22 (yb v7::dd 4 ([]))),nn 39 ([])⟩) ?_ ?_
  ·intro k8 h;(conv=>whnf);refine .inl (dO ?_);obtain⟨v9,g10,h⟩:=AC h;refine⟨_,_,Ix g10,.inl rfl,?_⟩;refine sJ h ?_ ?_<;>intro h
   ·(conv=>whnf);refine cO ?_;exact AD wk h
   refine sJ h ?_ ?_<;>intro h
   ·refine⟨_,rfl,?_⟩;obtain⟨v11,g12,h⟩:=AC h;refine⟨CJ (f:=YZ.toD) g12,YZ.toD v11,CM (f:=YZ.toD) g12,rfl,?_⟩;obtain⟨v13,g14,h⟩:=AC h;refine⟨_,_,Hr g14,.inl rfl,?_⟩;(conv=>whnf);refine cO ?_;exact AD wk h
   (conv=>whnf);refine cO ?_;exact AD wk h
  rintro v7 h;(conv=>whnf);refine .go ?_;refine sJ h ?_ ?_<;>intro h
  ·cases h;exact⟨rfl,rfl⟩
  refine⟨_,hwi2,?_⟩;exact hK6 _ _ wk h
 rintro _ h;refine⟨a0.length,X10 _,?_⟩;cases h;exact⟨rfl,rfl⟩
theorem E0 {a0:List YZ}{r:Bool}(h:B1 a0=some r):yC wl 140 [AV.d (D.l 2 YZ.toD a0)] [] (.d (D.b r)) []:=by
 refine oK Tryz.f140 ⟨rfl,?_⟩;unfold B1 at h;obtain⟨v1,g2,h⟩:=AC h;refine⟨_,_,some [],A6 g2,?_⟩;cases h;exact⟨rfl,rfl⟩
theorem Gl {a0:Ye}{r:Bool}(h:Bc a0=some r):yC wl 166 [AV.d (Ye.toD a0)] [] (.d (D.b r)) []:=by
 refine oK Tryz.f166 ⟨rfl,?_⟩;unfold Bc at h;refine⟨rfl,?_⟩;obtain⟨v1,g2,h⟩:=AC h;refine⟨_,_,none,Eo g2,?_⟩;cases h;exact⟨rfl,rfl⟩
theorem FQ {a0:Ye}{a1:Ye}{r:Int}(h:BG a0 a1=some r):yC wl 167 [AV.d (Ye.toD a0),AV.d (Ye.toD a1)] [] (.d (D.i r)) []:=by
 refine oK Tryz.f167 ⟨rfl,?_⟩;unfold BG at h;(conv=>whnf);refine .inl (dO ?_);obtain⟨v1,g2,h⟩:=AC h;refine⟨_,_,BA g2,.inl rfl,?_⟩;obtain⟨v3,g4,h⟩:=AC h;refine⟨_,_,BA g4,.inl rfl,?_⟩;obtain⟨v5,g6,h⟩:=AC h;refine⟨_,_,BA g6,.inl rfl,?_⟩;refine⟨rfl,?_⟩;obtain⟨v7,g8,h⟩:=AC h;refine⟨_,_,IE g8,.inl rfl,?_⟩;(conv=>whnf);refine cO ?_;cases h;exact⟨rfl,rfl⟩
theorem Ax {a0:List Ye}{r:Bool}(h:AN a0=some r):yC wl 165 [AV.d (D.l 3 Ye.toD a0),AV.fn 166 [],AV.fn 167 []] [] (.d (D.b r)) []:=by
 refine oK Tryz.f165 ⟨rfl,?_⟩;unfold AN at h;refine⟨a0.length,X10 _,?_⟩;revert h;refine AI (fun _=>⟨y5 a0::dd 38 ([]),nn 39 ([])⟩) ?_ ?_
 ·intro k1 h;revert h;refine A8 9 3 Ye.toD rfl (fun i2 _=>⟨y5 a0::AV.fn 166 []::AV.fn 167 []::dd 6 (y5 a0::yi (a0.length:Int)::yi (i2:Int)::dd 27 ([])),nn 39 ([])⟩) ?_ ?_ ?_
  ·exact wk
  ·rintro _ K3 h;(conv=>whnf);refine .go ?_;(conv=>whnf);refine DV Fg ?_;exact AD wk h
  rintro next4 i2 x5 _ K3 hii2 hxi2 hwi2 h hK6;(conv=>whnf);refine .go ?_;(conv=>whnf);refine Cf (FD hii2) ?_;(conv=>whnf);refine .go ?_;refine⟨C5 (f:=Ye.toD) hii2,Ye.toD x5,hxi2,rfl,?_⟩;revert h;refine AI (fun v7=>⟨y5 a0::AV.fn 166 []::AV.fn 167 []::dd 6 (y5 a0::yi (a0.length:Int)::yi (i2:Int)::dd 22 (yb v7::dd 4 ([]))),nn 39 ([])⟩) ?_ ?_
  ·intro k8 h;(conv=>whnf);refine .inl (dO ?_);obtain⟨v9,g10,h⟩:=AC h;refine⟨_,_,Gl g10,.inl rfl,?_⟩;refine sJ h ?_ ?_<;>intro h
   ·(conv=>whnf);refine cO ?_;exact AD wk h
   refine sJ h ?_ ?_<;>intro h
   ·refine⟨_,rfl,?_⟩;obtain⟨v11,g12,h⟩:=AC h;refine⟨CJ (f:=Ye.toD) g12,Ye.toD v11,CM (f:=Ye.toD) g12,rfl,?_⟩;obtain⟨v13,g14,h⟩:=AC h;refine⟨_,_,FQ g14,.inl rfl,?_⟩;(conv=>whnf);refine cO ?_;exact AD wk h
   (conv=>whnf);refine cO ?_;exact AD wk h
  rintro v7 h;(conv=>whnf);refine .go ?_;refine sJ h ?_ ?_<;>intro h
  ·cases h;exact⟨rfl,rfl⟩
  refine⟨_,hwi2,?_⟩;exact hK6 _ _ wk h
 rintro _ h;refine⟨a0.length,X10 _,?_⟩;cases h;exact⟨rfl,rfl⟩
theorem Dq {a0:List Ye}{r:Bool}(h:BB a0=some r):yC wl 141 [AV.d (D.l 3 Ye.toD a0)] [] (.d (D.b r)) []:=by
 refine oK Tryz.f141 ⟨rfl,?_⟩;unfold BB at h;obtain⟨v1,g2,h⟩:=AC h;refine⟨_,_,some [],Ax g2,?_⟩;cases h;exact⟨rfl,rfl⟩
theorem HO {a0:Int}{r:Bool}(h:B7 a0=some r):yC wl 116 [AV.d (D.i a0)] [] (.d (D.b r)) []:=by
 refine oK Tryz.f116 ⟨rfl,?_⟩;unfold B7 at h;revert h;refine AI (fun v1=>⟨X::X::yb v1::dd 12 ([]),nn 15 ([])⟩) ?_ ?_
 ·intro k2 h;obtain⟨v3,g4,h⟩:=AC h;refine⟨_,CZ (ek:=D.i) (ev:=D.i) (l:=BE) (k:=a0) EL,D.i v3,EP (z:=0) rfl g4,_,rfl,?_⟩;refine sJ h (fun h=>?_) fun h=>AD wk h;exact sJ h (fun h=>AD wk h) fun h=>AD wk h
 rintro v1 h;cases h;exact⟨rfl,rfl⟩
theorem En {a0:List YX}{r:Bool}(h:Bi a0=some r):yC wl 142 [AV.d (D.l 3 YX.toD a0)] [] (.d (D.b r)) []:=by
 refine oK Tryz.f142 ⟨rfl,?_⟩;unfold Bi at h;refine⟨a0.length,X10 _,?_⟩;revert h;refine AI (fun _=>⟨y0 a0::dd 51 ([]),nn 52 ([])⟩) ?_ ?_
 ·intro k1 h;revert h;refine A8 5 3 YX.toD rfl (fun i2 _=>⟨y0 a0::dd 4 (y0 a0::yi (a0.length:Int)::yi (i2:Int)::dd 44 ([])),nn 52 ([])⟩) ?_ ?_ ?_
  ·exact wk
  ·rintro _ K3 h;(conv=>whnf);refine .go ?_;(conv=>whnf);refine DV Fg ?_;exact AD wk h
  rintro next4 i2 x5 _ K3 hii2 hxi2 hwi2 h hK6;(conv=>whnf);refine .go ?_;(conv=>whnf);refine Cf (FD hii2) ?_;(conv=>whnf);refine .go ?_;refine⟨C5 (f:=YX.toD) hii2,YX.toD x5,hxi2,rfl,?_⟩;revert h;refine AI (fun v7=>⟨y0 a0::dd 4 (y0 a0::yi (a0.length:Int)::yi (i2:Int)::dd 39 (yb v7::dd 4 ([]))),nn 52 ([])⟩) ?_ ?_
  ·intro k8 h;(conv=>whnf);refine .inl (dO ?_);obtain⟨v9,g10,h⟩:=AC h;refine⟨_,_,HO g10,.inl rfl,?_⟩;refine sJ h ?_ ?_<;>intro h
   ·(conv=>whnf);refine cO ?_;exact AD wk h
   obtain⟨v11,g12,h⟩:=AC h;refine⟨_,_,BI g12,.inl rfl,?_⟩;refine sJ h ?_ ?_<;>intro h
   ·(conv=>whnf);refine cO ?_;exact AD wk h
   refine sJ h ?_ ?_<;>intro h
   ·(conv=>whnf);refine cO ?_;exact AD wk h
   refine⟨x5.Data.length,X10 _,?_⟩;refine sJ h ?_ ?_<;>intro h
   ·(conv=>whnf);refine cO ?_;exact AD wk h
   refine sJ h ?_ ?_<;>intro h
   ·refine⟨_,rfl,?_⟩;obtain⟨v13,g14,h⟩:=AC h;refine⟨CJ (f:=YX.toD) g14,YX.toD v13,CM (f:=YX.toD) g14,rfl,?_⟩;(conv=>whnf);refine cO ?_;exact AD wk h
   (conv=>whnf);refine cO ?_;exact AD wk h
  rintro v7 h;(conv=>whnf);refine .go ?_;refine sJ h ?_ ?_<;>intro h
  ·cases h;exact⟨rfl,rfl⟩
  refine⟨_,hwi2,?_⟩;exact hK6 _ _ wk h
 rintro _ h;refine⟨a0.length,X10 _,?_⟩;cases h;exact⟨rfl,rfl⟩
theorem E2 {a0:YY}{r:Bool}(h:BZ a0=some r):yC wl 105 [AV.d (YY.toD a0)] [] (.d (D.b r)) []:=by
 refine oK Tryz.f105 ⟨rfl,?_⟩;unfold BZ at h;revert h;refine AI (fun v1=>⟨X::X::yb v1::dd 48 ([]),nn 51 ([])⟩) ?_ ?_
 ·intro k2 h;obtain⟨v3,g4,h⟩:=AC h;refine⟨_,_,some [],BI g4,?_⟩;refine sJ h (fun h=>?_) fun h=>AD wk h;obtain⟨v5,g6,h⟩:=AC h;refine⟨_,_,some [],Ko g6,?_⟩;refine sJ h (fun h=>?_) fun h=>AD wk h;obtain⟨v7,g8,h⟩:=AC h;refine⟨_,_,some [],Fa g8,?_⟩;refine sJ h (fun h=>?_) fun h=>AD wk h;obtain⟨v9,g10,h⟩:=AC h;refine⟨_,_,some [],BI g10,?_⟩;refine sJ h (fun h=>?_) fun h=>AD wk h;obtain⟨v11,g12,h⟩:=AC h;refine⟨_,_,some [],BI g12,?_⟩;refine sJ h (fun h=>?_) fun h=>AD wk h;refine sJ h ?_ ?_<;>intro h
  ·obtain⟨v13,g14,h⟩:=AC h;refine⟨_,_,some [],E0 g14,?_⟩;refine sJ h (fun h=>?_) fun h=>AD wk h;obtain⟨v15,g16,h⟩:=AC h;refine⟨_,_,some [],Dq g16,?_⟩;refine sJ h (fun h=>?_) fun h=>AD wk h;obtain⟨v17,g18,h⟩:=AC h;refine⟨_,_,some [],En g18,?_⟩;exact AD wk h
  obtain⟨v19,g20,h⟩:=AC h;refine⟨_,_,some [],F9 g20,?_⟩;refine sJ h (fun h=>?_) fun h=>AD wk h;obtain⟨v21,g22,h⟩:=AC h;refine⟨_,_,some [],E0 g22,?_⟩;refine sJ h (fun h=>?_) fun h=>AD wk h;obtain⟨v23,g24,h⟩:=AC h;refine⟨_,_,some [],Dq g24,?_⟩;refine sJ h (fun h=>?_) fun h=>AD wk h;obtain⟨v25,g26,h⟩:=AC h;refine⟨_,_,some [],En g26,?_⟩;exact AD wk h
 rintro v1 h;cases h;exact⟨rfl,rfl⟩
theorem FP {a0:List UInt8}{r:(List UInt8)}(h:A1 a0=some r):yC wl 119 [AV.d (D.l 1 D.u8 a0)] [] (.d (D.l 1 D.u8 r)) []:=by
 refine oK Tryz.f119 ⟨rfl,?_⟩;unfold A1 at h;refine⟨?_,fun hz=>?_⟩
 ·(conv=>whnf);refine .go ?_;obtain⟨v1,g2,h⟩:=AC h;refine⟨rfl,Am (f:=D.u8) (g:=D.u8) g2,_,Ap (f:=D.u8) g2,?_⟩;(conv=>whnf);refine .inl ?_;(conv=>whnf);refine .inl ?_;refine⟨rfl,?_⟩;cases h;exact⟨rfl,rfl⟩
 obtain rfl:a0=[]:=(by simpa using hz);replace h:=Ph h;(conv=>whnf);refine .go ?_;(conv=>whnf);refine .inl ?_;cases h;exact⟨rfl,rfl⟩
end Go.AX.Q19
end
section
namespace Go.AX
open Go.Proofs Go.Sort Go.Shelf Go.RowKit
theorem Oq {vals:Array Value}{v u:Value}(hs:vals.size=2)(h:vals.getD 0 undef=v)(h':vals.getD 1 undef=u):vals=#[v,u]:=by
 match vals,hs with
 | ⟨[a,b]⟩,_=>
  simp at h h'
  rw[h,h']
theorem Em {α:Type}[Inhabited α](enc:α->List Value)(k:Nat)(w:World)(blk off n:Nat)(d:Array α)(os:Array Obj)(hb:blk<w.heap.size) :
  (∀b,b<w.heap.size->b≠blk->(sortWorldK enc k w blk off n d os).heap[b]?=w.heap[b]?)/\w.heap.size<=(sortWorldK enc k w blk off n d os).heap.size/\
  (∀vs e fr,w.heap[blk]?=some (.cells vs e fr)->(sortWorldK enc k w blk off n d os).heap[blk]?=some (.cells (putCells id off (flatK enc k d) vs) e fr))/\
  (sortWorldK enc k w blk off n d os).os=w.os/\(sortWorldK enc k w blk off n d os).output=w.output/\(sortWorldK enc k w blk off n d os).tape=w.tape/\w.drawn<=(sortWorldK enc k w blk off n d os).drawn:=by
 have hh:(sortWorldK enc k w blk off n d os).heap=(w.heap.modify blk (onCells (putCells id off (flatK enc k d))))++os:=rfl
 refine⟨fun b h1 h2=>?_,?_,fun vs e fr h=>?_,rfl,rfl,rfl,Nat.le_add_right _ _⟩
 ·rw[hh,Array.getElem?_append_left (by simpa using h1),Array.getElem?_modify,if_neg (Ne.symm h2)]
 ·rw[hh];simp
 rw[hh,Array.getElem?_append_left (by simpa using hb),Array.getElem?_modify,if_pos rfl,h]
 rfl
theorem VY {W w':World}(hp :∀b,b<W.heap.size->w'.heap[b]?=W.heap[b]?)(sz:W.heap.size<=w'.heap.size)(os:w'.os=W.os)(out:w'.output=W.output)(tape:w'.tape=W.tape)(dr:W.drawn<=w'.drawn) :
  ∃q os',w'=grow (W.drewN q) os':=by
 refine⟨w'.drawn-W.drawn,w'.heap.extract W.heap.size w'.heap.size,?_⟩
 obtain⟨h1,t1,d1,o1,u1⟩:=w'
 obtain⟨h2,t2,d2,o2,u2⟩:=W
 simp only at hp sz os out tape dr
 subst os out tape
 have hheap:h1=h2++h1.extract h2.size h1.size:=by
  apply Array.ext_getElem?
  intro i
  by_cases hi:i<h2.size
  ·rw[Array.getElem?_append_left hi];exact hp i hi
  rw[Array.getElem?_append_right (by omega),Array.getElem?_extract]
  by_cases hi2:i<h1.size
  ·rw[if_pos (by omega),show h2.size+(i-h2.size)=i by omega]
  rw[if_neg (by omega),Array.getElem?_eq_none (by omega)]
 have hd:d1=d2+(d1-d2):=by omega
 unfold grow World.drewN
 simp only
 congr 1
theorem Uu {wl:WL}{P:Program}{ρ:Ren}{X:Type}{f:X->D}{cmp:X->X->Option Int}{g k e:Nat}(L:SlLaysF0.n6 P ρ)(hf:XV P (ρ.f 6))(aE :∀w,(isAgg (ρ.t 24)).run P w=.ok true w)(zE :∀w,(Go.sizeOf (ρ.t 24)).run P w=.ok k w)
  (eg :∀args w,(callFunc g args).run P w=.ok (.enter g args) w) (hagg :∀x,(f x).isAgg=true) (hcmp :∀{a b r},cmp a b=some r->Br wl.low P g [.d (f a),.d (f b)] [] (.i r) [])
  {l r:List X} (h:D9 cmp l=some r):Br wl P (ρ.f 6) [.own 0 (List.map f l).length,.fn g []] [.row e k (List.map f l) .no] (.tup []) [.row e k (List.map f r) .no]:=by
 refine⟨hf,fun w S φ gb hg vals hs hr hn m=>?_⟩
 have r0:=(hr 0 (by simp)).1
 have r1:=(hr 1 (by simp)).1
 simp only[List.getElem_cons_zero,List.getElem_cons_succ] at r0 r1
 have hv:=Oq hs rfl rfl
 generalize vals.getD 0 undef=v0 at r0 hv
 generalize vals.getD 1 undef=v1 at r1 hv
 cases r1 with | fn _ _ vs1 _ hs1 _ _=>
 obtain rfl:vs1=#[]:=Array.eq_empty_of_size_eq_zero (by simpa using hs1)
 cases r0 with | own _ _ _ kk c a0 hv0 hk0 h1 hb=>
 have hob:ofL [OB.row e k (List.map f l) .no] 0=some (.row e k (List.map f l) .no):=rfl
 obtain⟨_,hown⟩:=h1 _ _ _ _ hob
 have hown:=hown rfl
 have hmem:=m.obj 0 _ hob
 obtain⟨g0,g1,g2,g3⟩:=hmem
 have hol :∀r',ofL [OB.row e k (List.map f r') .no]=upd (ofL [OB.row e k (List.map f l) .no]) 0 (some (.row e k (List.map f r') .no)):=by
  intro r'
  funext q
  match q with
  | 0=>simp[ofL]
  | q+1=>simp[ofL,upd]
 by_cases hl:0<l.length
 rotate_left
 ·
  have hl0:l=[]:=List.eq_nil_of_length_eq_zero (by omega)
  subst hl0
  obtain⟨hp,_⟩:=Ib h
  obtain rfl:r=[]:=hp.eq_nil
  obtain⟨p,cap,hvp⟩ :∃p cap,v0=.slice p 0 cap:=by rw[hv0,hk0];exact⟨_,_,rfl⟩
  rw[hv,hvp]
  refine (AnyF.slices_SortFunc_none L p cap _ w).mono fun e' w' ⟨he,hw⟩=>⟨_,he,S,φ,hw ▸ m,hw ▸ .refl _ _ _ _,.tup [] #[] (fun _=>undef) rfl (fun i hi=>by simp at hi) (fun i hi=>by simp at hi),fun q hq=>by simp[AV.refs,AV.refs.refsL] at hq⟩
 rcases g3 with ⟨_,hnil⟩|⟨b,cap,vs,f0,f1,f2,f3,f4,f5,f6,f7,f8⟩
 ·simp at hnil
  subst hnil
  simp at hl
 obtain⟨hlen,hget⟩:=OA h hl
 have hsw:O4 cmp l=true:=by
  unfold D9 at h
  split at h
  ·assumption
  simp at h
 obtain⟨hpsz,hpperm,_⟩:=JS hsw hl
 have hv0':v0=.slice (some ⟨b,cap.2,none⟩) l.length cap.1:=by
  rcases hown with ⟨hφ0,_⟩|⟨b',cap',hφ0,hvv⟩
  ·rw[f1] at hφ0;simp at hφ0
  rw[f1] at hφ0
  simp only[X24,X26] at hφ0
  obtain⟨rfl,rfl⟩:=hφ0
  rw[hvv];simp
 have hbl:=(m.ow 0 b cap (by simp[ofL]) f1).1
 let ix:Nat->Nat:=fun i=>min i (l.length-1)
 have hix :∀i,ix i<l.length:=fun i=>by simp only[ix];omega
 let enc:Nat->List Value:=fun i=>(List.range k).map fun j=>f0 (ix i) j
 have hencl :∀x,(enc x).length=k:=fun x=>by simp[enc]
 have helem :∀i (hi:i<l.length),(f l[i]).cells.length=k:=fun i hi=>by have:=g1 i (by simpa using hi);simpa using this
 have hrep :∀i (hi:i<l.length) j (hj:j<k),∃hj':j<(f l[i]).cells.length,RepD S w ((f l[i]).cells[j]'hj') (f0 i j)/\((f l[i]).cells[j]'hj').isAgg=false:=by
  intro i hi j hj
  have hj':j<(f l[i]).cells.length:=by rw[helem i hi];exact hj
  refine⟨hj',?_,?_⟩
  ·have:=f7 i (by simpa using hi) j (by simpa using hj');simpa using this
  have:=g2 i (by simpa using hi) j (by simpa using hj');simpa using this
 have hone :∀x,∀v∈enc x,v.oneCell'=true:=by
  intro x v hv
  obtain⟨j,hj,rfl⟩:=List.mem_map.1 hv
  obtain⟨hj',h2,h3⟩:=hrep (ix x) (hix x) j (by simpa using hj)
  exact h2.one h3
 have hflat :∀(d:Array Nat) t,t<d.size*k->(flatK enc k d)[t]! = f0 (ix d[t/k]!) (t%k):=by
  intro d t ht
  have hk0:0<k:=g0
  rw[get_flatK _ _ _ _ ht]
  have:=Nat.mod_lt t hk0
  simp[enc,this]
 have hH:HoldsK enc k w b cap.2 (Array.range l.length):=by
  intro t ht
  have ht':t<l.length*k:=by simpa using ht
  have hk0:0<k:=g0
  have hq:t/k<l.length:=Nat.div_lt_of_lt_mul (by rwa [Nat.mul_comm])
  rw[hflat _ t (by simpa using ht')]
  have h1:(Array.range l.length)[t/k]! = t/k:=by simp[hq]
  have h2:ix (t/k)=t/k:=by simp only[ix];omega
  have h3:=f6 (t/k) (t%k) (by simpa using hq) (Nat.mod_lt t hk0)
  have h4:t/k*k+t%k=t:=by rw[Nat.mul_comm];exact Nat.div_add_mod t k
  rw[h4] at h3
  rw[h1,h2]
  refine⟨?_,?_⟩
  ·simp only[World.cell?,f2,id]
   exact h3
  simp[World.frozen?,f2]
 have hkeep :∀(n:Nat) (d:Array Nat) (os:Array Obj),JH S w S (sortWorldK enc k w b cap.2 n d os):=by
  intro n d os b' o hS
  obtain⟨h1,_⟩:=Em enc k w b cap.2 n d os hbl
  have hne:b'≠b:=fun he=>f8.1 o (by simp) (he ▸ hS)
  exact⟨hS,BS (h1 b' (m.bS b' o hS) hne) o⟩
 have hrepE :∀{W:World},JH S w S W->∀i (hi:i<l.length),RepD S W (f l[i]) (.agg ((List.range k).map fun j=>f0 i j).toArray):=by
  intro W hK i hi
  have ha:=hagg l[i]
  cases hfl:f l[i] with
  | agg cs=>
   have hcs:cs.length=k:=by have:=helem i hi;rw[hfl] at this;exact this
   refine .agg cs _ (fun j=>f0 i j) (by simp[hcs]) (fun j hj=>by simp[hcs ▸ hj]) (fun j hj=>?_) fun j hj=>?_
   ·obtain⟨hj',_,h3⟩:=hrep i hi j (hcs ▸ hj)
    simp only[hfl,D.cells] at h3
    exact h3
   obtain⟨hj',h2,_⟩:=hrep i hi j (hcs ▸ hj)
   simp only[hfl,D.cells] at h2
   exact h2.mono hK
  | val v=>rw[hfl] at ha;simp[D.isAgg] at ha
  | nil sz=>rw[hfl] at ha;simp[D.isAgg] at ha
  | lst sz es=>rw[hfl] at ha;simp[D.isAgg] at ha
 have hfull :∀x,∃(hi:ix x<l.length),enc x=(List.range k).map fun j=>f0 (ix x) j:=fun x=>⟨hix x,rfl⟩
 have hlays:CmpLays P g #[] enc k (cfI cmp l) b cap.2 (Array.range l.length).size w:=by
  intro q os dk hdk x y
  obtain⟨w1,w2,w3,w4,w5,w6,w7⟩:=Em enc k w b cap.2 q dk os hbl
  have hK:=hkeep q dk os
  generalize hW:sortWorldK enc k w b cap.2 q dk os=W at *
  have hx:=hix x
  have hy:=hix y
  obtain⟨c1,_⟩:=Jp hsw
  obtain⟨rr,hrr⟩:=c1 l[ix x] (List.getElem_mem hx) l[ix y] (List.getElem_mem hy)
  have hcf:cfI cmp l x y=rr:=by
   have e1:ixL l x=some l[ix x]:=X15 hx
   have e2:ixL l y=some l[ix y]:=X15 hy
   unfold cfI
   rw[e1,e2]
   simp[hrr]
  have hn0 :∀r,ofL [] r=none:=fun r=>by simp[ofL]
  have hgW:GlobOK wl.low gb (GM (fun _:Nat=>(none:Option (Nat×Rp))) ([]:List OB).length) S W:=by
   have e :∀b',gb b'->W.heap[b']?=w.heap[b']?:=fun b' hb'=>w1 b' (hg.lt b' hb') fun he=>hg.pb b' hb' ⟨0,cap,by simp,he ▸ f1⟩
   refine⟨wl.ext _ _ _ e hg.gf,fun b' hb'=>Nat.lt_of_lt_of_le (hg.lt b' hb') w2,?_,fun b' o hb' hc=>hg.st b' o hb' ?_⟩
   ·rintro b' hb' ⟨r,c,h1,_⟩
    simp at h1
   rw[<- BS (e b' hb') o]
   exact hc
  refine ((hcmp hrr).2 W S (fun _=>none) gb hgW (#[.agg (enc x).toArray,.agg (enc y).toArray]++#[]) (by simp) (fun i hi=>?_) (fun _ _=>rfl) ⟨fun r o ho=>by rw[hn0] at ho;simp at ho,fun r _ _ _ _ hr=>absurd (hn0 r) hr,fun r o ho=>by rw[hn0] at ho;simp at ho,fun _ _ h=>h,fun _ _ _=>rfl,fun b' o hS=>Nat.lt_of_lt_of_le (m.bS b' o hS) w2,fun _ _ h _ _=>h,fun _ _ _=>rfl,Nat.le_refl _,fun r _ _ hr=>absurd (hn0 r) hr,⟨rfl,rfl,rfl,.inr (Nat.le_refl _)⟩⟩).mono fun e' w' he=>?_
  ·refine⟨?_,?_⟩
   ·match i,hi with
    | 0,_=>exact .d _ _ (hrepE hK (ix x) hx)
    | 1,_=>exact .d _ _ (hrepE hK (ix y) hy)
   match i,hi with
   | 0,_=>exact Af _ _
   | 1,_=>exact Af _ _
  obtain⟨v,rfl,S',φ',mm,_,hvv,_⟩:=he
  refine⟨by rw[hvv.int,hcf],?_⟩
  have hpb :∀b',¬ GM (fun _:Nat=>(none:Option (Nat×Rp))) ([]:List OB).length b':=by rintro b' ⟨r,c,h1,_⟩;simp at h1
  refine VY (fun b' hb'=>mm.fr b' hb' (hpb b')) mm.sz mm.os.1 mm.os.2.1 mm.os.2.2.1 ?_
  rcases mm.os.2.2.2 with h | h
  ·exact h.elim
  exact h
 have hc:=AnyQ.slices_SortFunc_eq L k aE zE enc hencl hone (cfI cmp l) (SS hsw hl) g #[] b cap.2 cap.1 (Array.range l.length) w eg hlays hH hbl (by
  have:=(Jp hsw).2.2.2.2
  simp;omega)
 rw[hv,hv0']
 have hsz0:(Array.range l.length).size=l.length:=by simp
 rw[hsz0] at hc
 refine hc.mono fun e' w' ⟨he,n,os,hw⟩=>?_
 have hd:pdq (ltOf (cfI cmp l)) (Array.range l.length) 0 l.length (Lib.bitLen l.length) true true=EH cmp l:=rfl
 rw[hd] at hw
 obtain⟨w1,w2,w3,w4,w5,w6,w7⟩:=Em enc k w b cap.2 n (EH cmp l) os hbl
 rw[<- hw] at w1 w2 w3 w4 w5 w6 w7
 have hcur:=w3 _ _ _ f2
 have hr' :∀i (hi:i<r.length),∃(hp:(EH cmp l)[i]!<l.length),r[i]=l[(EH cmp l)[i]!]:=by
  intro i hi
  obtain⟨p1,p2⟩:=hget i (by omega)
  rw[X15 hi,X15 p1] at p2
  exact⟨p1,X25 p2⟩
 obtain⟨m2,k2⟩:=m.rowSet (es':=List.map f r) (cur':=putCells id cap.2 (flatK enc k (EH cmp l)) vs) (w':=w') hob f1 f2 (by simp[hlen])
  (fun i hi=>by
   have hi':i<r.length:=by simpa using hi
   obtain⟨hp,he⟩:=hr' i hi'
   simp only[List.getElem_map,he]
   exact helem _ hp)
  (fun i hi j hj=>by
   have hi':i<r.length:=by simpa using hi
   obtain⟨hp,he⟩:=hr' i hi'
   simp only[List.getElem_map,he] at hj ⊢
   obtain⟨hj',_,h3⟩:=hrep _ hp j (by rw[helem _ hp] at hj;exact hj)
   exact h3)
  hcur (by simp[putCells]) (fun b' h1 h2=>w1 b' h1 h2) w2 ⟨w4,w5,w6,w7⟩ (fun i j=>f0 (EH cmp l)[i]! j)
  (fun i j hi hj=>by
   have hi':i<r.length:=by simpa using hi
   obtain⟨hp,he⟩:=hr' i hi'
   have hil:i<l.length:=by omega
   have hik:i*k+j<l.length*k:=by
    have:=X31 k (show i+1<=l.length from hil)
    rw[X32,Nat.one_mul] at this
    omega
   have hbig:cap.2+(i*k+j)<vs.size:=by
    have h3:l.length<=cap.1:=by simpa using f3
    have:=X31 k h3
    omega
   have e1:(i*k+j)/k=i:=by rw[Nat.mul_comm,Nat.mul_add_div g0,Nat.div_eq_of_lt hj,Nat.add_zero]
   have e2:(i*k+j)%k=j:=by rw[Nat.mul_comm,Nat.mul_add_mod,Nat.mod_eq_of_lt hj]
   have hfl:=hflat (EH cmp l) (i*k+j) (by rw[hpsz];exact hik)
   rw[e1,e2] at hfl
   have hixx:ix (EH cmp l)[i]! = (EH cmp l)[i]!:=by simp only[ix];omega
   rw[hixx] at hfl
   simp only[putCells,Array.getElem?_mapIdx,Array.getElem?_eq_getElem hbig,Option.map_some]
   rw[if_pos ⟨by omega,by rw[size_flatK,hpsz];omega⟩,show cap.2+(i*k+j)-cap.2=i*k+j by omega,hfl]
   rfl)
  (fun i hi j hj=>by
   have hi':i<r.length:=by simpa using hi
   obtain⟨hp,he⟩:=hr' i hi'
   simp only[List.getElem_map,he] at hj ⊢
   obtain⟨hj',h2,_⟩:=hrep _ hp j (by rw[helem _ hp] at hj;exact hj)
   exact h2)
 rw[<- hol r] at m2 k2
 exact⟨_,he,S,φ,m2,k2,.tup [] #[] (fun _=>undef) rfl (fun i hi=>by simp at hi) (fun i hi=>by simp at hi),fun q hq=>by simp[AV.refs,AV.refs.refsL] at hq⟩
end Go.AX
end
