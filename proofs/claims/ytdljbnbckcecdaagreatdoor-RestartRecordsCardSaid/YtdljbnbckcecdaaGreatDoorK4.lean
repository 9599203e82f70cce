/-
  Texts of one proof, packed: L33Z L33Q L33R Q33P1 Q33P2 Q33P4 AxB AxB5 AxB6 Q33B Q33P5 Q33P6 Q33P7 Q33P8 Q33P9 Q33P10 Q33P11 Q33P12 Q33P13.
-/
import Derived.Test.YtdljbnbckcecdaaGreatDoorK1
import Derived.Test.YtdljbnbckcecdaaGreatDoorK2
import Derived.Test.YtdljbnbckcecdaaGreatDoorK3
import Derived.Deep.Draws
import Derived.IntWalk
import Derived.KernelRfl
import Derived.Shelf.SlSortCmp.NoneTotal
import Derived.Shelf.SortM.Plain
import Derived.Shelf.SortM.SortNone
set_option linter.all false
open List renaming length_map→X10,length_append→X11,length_cons→X12,length_nil→X13,mem_singleton→X14,getElem?_eq_getElem→X15,getElem?_eq_some_iff→X16,length_drop→X17,length_take→X18,mem_cons_of_mem→X19,length_replicate→X20,length_set→X21,length_singleton→X22,mem_append→X23
open Option.some renaming injEq→X24,inj→X25
open Prod.mk renaming injEq→X26
open Bool renaming and_eq_true→X27,eq_iff_iff→X28
open Nat renaming le_of_ble_eq_true→X29,eq_of_beq_eq_true→X30,mul_le_mul_right→X31,add_mul→X32
section
namespace Go.AX.Q33
open Go Go.AX
set_option maxRecDepth 8000
def Nw (b:List UInt8) (P:Pt):Bool:=decide (P.l.length=1)&&(B5 P.l 15&&(decide (P.gone.length=0)&&((decide (b.getD 0 0=0)&&decide (b.getD 1 0=0))&&decide (b.length=4 + ((b.getD 2 0).toNat * 256 + (b.getD 3 0).toNat)))))
def YY (b:List UInt8):Option Pt->Bool×Bool
 | none=>(false,false)
 | some P=>if Nw b P=true then (true,true) else (false,false)
def Qg (b:List UInt8):Bool×Bool:=if b=[0,0,0,0] then (true,false) else YY b (HI b)
theorem Xv (b:List UInt8) (P:Pt):YY b (some P)=if Nw b P=true then (true,true) else (false,false):=rfl
theorem YD {b:List UInt8} {P:Pt} (h:PtOK b P) :∃x y u v s,b=x::y::u::v::s/\(x=0->y=0->∃a rest,GY (u::v::s)=some (a,rest)/\J3 a []=some P.l/\Ea false rest []=some P.four/\P.old=[]):=by
 obtain⟨w,b1,a,rest,h1,h2,h3,_,_,h6,h7⟩:=h.h
 have l2:=FY h2
 unfold GY at h1
 split at h1
 case h_2=>cases h1
 rename_i x y t
 split at h1
 ·cases h1
 rename_i hlt
 simp only[X24,X26] at h1
 obtain⟨rfl,rfl⟩:=h1
 rw[X17] at l2
 match t,l2,hlt,h2,h6 with
 | [],l2,_,_,_=>simp at l2
 | [_],l2,_,_,_=>simp only[X12,X13] at l2;omega
 | u::v::s,l2,hlt,h2,h6=>
  refine⟨x,y,u,v,s,rfl,?_⟩
  rintro rfl rfl
  have e:(0:UInt8).toNat * 256 + (0:UInt8).toNat=0:=rfl
  rw[e] at h2 h6
  rw[List.drop_zero] at h2
  rw[List.take_zero,Tj] at h6
  exact⟨a,rest,h2,h3,h7,(X25 h6).symm⟩
theorem YI {l:List JAB} {t:Int} (hl:l.length=1) (h:B5 l t=true) :∃x,l=[x]/\x.Type_=t:=by
 match l,hl with
 | [x],_=>
  refine⟨x,rfl,?_⟩
  unfold B5 at h
  simp only[List.any_cons,List.any_nil,Bool.or_false,beq_iff_eq] at h
  exact h.symm
theorem Uj {u v:UInt8} {s a rest:List UInt8} (h:GY (u::v::s)=some (a,rest)):rest=[]↔s.length=u.toNat * 256 + v.toNat:=by
 rw[show GY (u::v::s)=(if s.length<u.toNat * 256 + v.toNat then none else some (s.take (u.toNat * 256 + v.toNat),s.drop (u.toNat * 256 + v.toNat))) from rfl] at h
 split at h
 ·cases h
 simp only[X24,X26] at h
 obtain⟨_,rfl⟩:=h
 rw[List.drop_eq_nil_iff]
 omega
theorem Zq {x y:UInt8}:(((x.toNat * 256 + y.toNat:Nat):Int) != 0)=!(decide (x=0)&&decide (y=0)):=by
 have hx:x=0↔x.toNat=0:=by rw[<- UInt8.toNat_inj];rfl
 have hy:y=0↔y.toNat=0:=by rw[<- UInt8.toNat_inj];rfl
 rw[X28]
 simp only[bne_iff_ne,ne_eq,Bool.not_eq_true',Bool.and_eq_false_iff,decide_eq_false_iff_not,hx,hy]
 omega
theorem Xa {b:List UInt8} (hb:b.length<=400000):GR b=some (Qg b):=by
 unfold GR Qg
 have e4:(b==List.replicate (Int.toNat 4) (0:UInt8))=decide (b=[0,0,0,0]):=by
  rw[X28,beq_iff_eq,decide_eq_true_iff]
  exact Iff.rfl
 rw[show chk (0<=(4:Int)/\(4:Int)<=4/\(4:Int)<=1048576)=some () from if_pos (by omega),AC,UA,AC,e4]
 by_cases h4:b=[0,0,0,0]
 ·rw[if_pos (by simpa using h4),if_pos h4]
 rw[if_neg (by simpa using h4),if_neg h4,AG]
 obtain⟨r,hr,hq⟩:=RA hb
 show Option.bind (BZ p00 b) _=_
 rw[hr,AC]
 cases hP:HI b with
 | none=>
  rw[hP] at hq
  obtain⟨r1,r2⟩:=r
  have hq:r1=false:=hq
  subst hq
  rfl
 | some P=>
  rw[hP] at hq
  have hq:r=(true,⟨P.l,P.next,P.old,P.gone,P.four,P.six⟩):=hq
  subst hq
  have hok:=M7 hb hP
  obtain⟨x,y,u,v,s,rfl,_⟩:=YD hok
  have hx:=x.toNat_lt
  have hu:=u.toNat_lt
  have hv:=v.toNat_lt
  have hp:part (x::y::u::v::s) 2 ((x::y::u::v::s).length:Int)=some (u::v::s):=Dx (l:=x::y::u::v::s) (n:=2) (by simp)
  dsimp only
  rw[if_neg (by decide),hp,AC,TA,AC,PV,AC,TA,AC,Zq]
  have eL:((((x::y::u::v::s).length:Nat):Int) != AK (4 + ((u.toNat * 256 + v.toNat:Nat):Int)))=!decide ((x::y::u::v::s).length=4 + (u.toNat * 256 + v.toNat)):=by
   rw[AQ (by omega),X28]
   simp only[bne_iff_ne,ne_eq,Bool.not_eq_true',decide_eq_false_iff_not]
   omega
  have e1:((P.l.length:Int) != 1)=!decide (P.l.length=1):=by
   rw[X28]
   simp only[bne_iff_ne,ne_eq,Bool.not_eq_true',decide_eq_false_iff_not]
   omega
  have e2:decide ((P.gone.length:Int) > 0)=!decide (P.gone.length=0):=by
   rw[X28]
   simp only[decide_eq_true_eq,Bool.not_eq_true',decide_eq_false_iff_not]
   omega
  rw[eL]
  dsimp only
  rw[e1,e2]
  rw[Xv]
  have eC:Nw (x::y::u::v::s) P=(decide (P.l.length=1)&&(B5 P.l 15&&(decide (P.gone.length=0)&&((decide (x=0)&&decide (y=0))&&decide ((x::y::u::v::s).length=4 + (u.toNat * 256 + v.toNat)))))):=rfl
  rw[eC]
  generalize decide ((x::y::u::v::s).length=4 + (u.toNat * 256 + v.toNat))=c1
  generalize decide (P.l.length=1)=c2
  generalize B5 P.l 15=c3
  generalize decide (P.gone.length=0)=c4
  generalize (decide (x=0)&&decide (y=0))=c5
  cases c1<;>cases c2<;>cases c3<;>cases c4<;>cases c5<;>rfl
theorem aK {b:List UInt8} {P:Pt} (hok:PtOK b P) (h:Nw b P=true):P.old=[]/\P.gone=[]/\P.four=[]/\P.six=[]:=by
 obtain⟨x,y,u,v,s,rfl,hh⟩:=YD hok
 have h:(decide (P.l.length=1)&&(B5 P.l 15&&(decide (P.gone.length=0)&&((decide (x=0)&&decide (y=0))&&decide ((x::y::u::v::s).length=4 + (u.toNat * 256 + v.toNat))))))=true:=h
 simp only[X27,decide_eq_true_eq] at h
 obtain⟨h1,h2,h3,⟨h4,h5⟩,h6⟩:=h
 obtain⟨a,rest,g1,g2,g3,g4⟩:=hh h4 h5
 simp only[X12] at h6
 obtain rfl:=(Uj g1).2 (by omega)
 rw[Tj] at g3
 obtain⟨z,hz,ht⟩:=YI h1 h2
 obtain⟨_,_,_,_,_,_,_,hR,_⟩:=hok.h
 unfold Da at hR
 rw[hz,Cd (by omega:z.Type_≠14)] at hR
 have hR:some (zAd,([]:List JAD))=some (P.next,P.six):=hR
 simp only[X24,X26] at hR
 exact⟨g4,List.eq_nil_of_length_eq_zero h3,(X25 g3).symm,hR.2.symm⟩
theorem YH {b:List UInt8} (hb:b.length<=400000):HZ b=some (Qg b):=by
 unfold HZ Qg
 have e4:((bs b).toList==(ByteArray.mk (List.toArray (List.cons 0 (List.cons 0 (List.cons 0 (List.cons 0 List.nil)))))).toList)=decide (b=[0,0,0,0]):=by
  rw[NV,Xg,X28,beq_iff_eq,decide_eq_true_iff]
 rw[e4]
 by_cases h4:b=[0,0,0,0]
 ·rw[if_pos (by simpa using h4),if_pos h4]
 rw[if_neg (by simpa using h4),if_neg h4,O5 hb,AC]
 unfold Ob
 cases hP:HI b with
 | none=>
  dsimp only
  rw[AG,if_pos (by decide)]
  dsimp only
  rw[if_pos rfl]
  rfl
 | some P=>
  have hok:=M7 hb hP
  have hno:=aK hok
  dsimp only
  by_cases h0:P.four++P.six=[]
  case neg=>
   have hc:Nw b P=false:=by
    cases hc:Nw b P with
    | false=>rfl
    | true=>exact absurd (by rw[(hno hc).2.2.1,(hno hc).2.2.2];rfl) h0
   have hE:YY b (some P)=(false,false):=by
    show (if Nw b P=true then _ else _)=_
    rw[hc];rfl
   have hlen:0<(P.four++P.six).length:=List.length_pos_iff.2 h0
   rw[if_neg h0,hE]
   by_cases hf:VF P=true
   ·rw[if_pos hf]
    dsimp only
    rw[AG,if_pos (by decide)]
    dsimp only
    rw[if_pos rfl]
   rw[if_neg hf]
   dsimp only
   rw[AG,if_neg (by decide)]
   by_cases hw:decide (((P.old++P.gone).length:Int) > 0)=true
   ·rw[if_pos (by rw[cond_false];exact hw)]
    dsimp only
    rw[if_pos rfl]
   rw[if_neg (by rw[cond_false];exact hw),if_pos (by rw[cond_false,decide_eq_true_eq];omega)]
   dsimp only
   rw[if_pos rfl]
  rw[if_pos h0]
  dsimp only
  rw[AG,if_neg (by decide)]
  by_cases hw:P.old++P.gone=[]
  case neg=>
   have hlen:0<(P.old++P.gone).length:=List.length_pos_iff.2 hw
   have hc:Nw b P=false:=by
    cases hc:Nw b P with
    | false=>rfl
    | true=>exact absurd (by rw[(hno hc).1,(hno hc).2.1];rfl) hw
   have hE:YY b (some P)=(false,false):=by
    show (if Nw b P=true then _ else _)=_
    rw[hc];rfl
   rw[if_pos (by rw[cond_false,decide_eq_true_eq];omega),hE]
   dsimp only
   rw[if_pos rfl]
  obtain⟨x,y,u,v,s,rfl,hh⟩:=YD hok
  have c0:((x.toNat:Int) != 0)=!decide (x=0):=JE x 0 (by omega)
  have c1:((y.toNat:Int) != 0)=!decide (y=0):=JE y 0 (by omega)
  rw[if_neg (by rw[cond_false,hw];decide),if_neg (by simp),if_neg (by rw[cond_false,decide_eq_true_eq];simp only[X12];omega),Fq,AC,Hg,AC,c0,c1]
  have eC:Nw (x::y::u::v::s) P=(decide (P.l.length=1)&&(B5 P.l 15&&(decide (P.gone.length=0)&&((decide (x=0)&&decide (y=0))&&decide ((x::y::u::v::s).length=4 + (u.toNat * 256 + v.toNat)))))):=rfl
  have hE :∀c,Nw (x::y::u::v::s) P=c->YY (x::y::u::v::s) (some P)=if c=true then (true,true) else (false,false):=by
   rintro c rfl;rfl
  by_cases k0:x=0
  case neg=>rw[hE false (by rw[eC];simp[k0]),if_pos (by simp[k0])];rfl
  by_cases k1:y=0
  case neg=>
   rw[hE false (by rw[eC];simp[k1]),if_neg (by simp[k0]),decide_eq_false k1]
   rfl
  obtain⟨a,rest,g1,g2,g3,g4⟩:=hh k0 k1
  have l2:=FY g1
  simp only[X12] at hb l2
  have hp:part (x::y::u::v::s) 2 ((x::y::u::v::s).length:Int)=some (u::v::s):=Dx (l:=x::y::u::v::s) (n:=2) (by simp)
  have htk:EN (u::v::s)=some (a,rest,true):=by
   rw[QD (by simp only[X12];omega)]
   unfold HB
   rw[g1]
  have hsp:Ek a=some (P.l,0):=by
   rw[Rx (by omega)]
   unfold NP
   rw[g2]
  have hgone:P.gone=[]:=by
   have:=congrArg List.length hw
   simp only[X11,X13] at this
   exact List.eq_nil_of_length_eq_zero (by omega)
  have hC:Nw (x::y::u::v::s) P=(decide (P.l.length=1)&&(B5 P.l 15&&decide (rest.length=0))):=by
   rw[eC,decide_eq_true k0,decide_eq_true k1,decide_eq_true (p:=P.gone.length=0) (by rw[hgone];rfl)]
   have:decide ((x::y::u::v::s).length=4 + (u.toNat * 256 + v.toNat))=decide (rest.length=0):=by
    rw[decide_eq_decide,List.length_eq_zero_iff,Uj g1]
    simp only[X12]
    omega
   rw[this]
   simp
  rw[hE _ hC,if_neg (by simp[k0]),decide_eq_true k1]
  dsimp only
  rw[if_neg (by decide),hp,AC,htk,AC]
  dsimp only
  rw[hsp,AC]
  dsimp only
  rw[AG,if_neg (by decide)]
  by_cases hr:rest.length=0
  case neg=>
   rw[if_pos (by rw[cond_false,decide_eq_true_eq];omega)]
   dsimp only
   rw[if_pos rfl,decide_eq_false hr]
   simp
  rw[if_neg (by rw[cond_false,decide_eq_true_eq];omega),if_neg (by decide),decide_eq_true hr]
  match P.l with
  | []=>rfl
  | [z]=>
   rw[if_neg (by simp),show geti [z] 0=some z from Bz (l:=[z]) (i:=0) (by simp),AC]
   have e15:(z.Type_ != 15)=!B5 [z] 15:=by
    unfold B5
    rw[List.any_cons,List.any_nil,Bool.or_false,X28]
    simp only[bne_iff_ne,ne_eq,Bool.not_eq_true',beq_eq_false_iff_ne]
    exact⟨fun h q=>h q.symm,fun h q=>h q.symm⟩
   rw[e15]
   cases B5 [z] 15<;>rfl
  | z1::z2::t=>
   rw[if_pos (by rw[cond_false,bne_iff_ne];simp only[X12];omega)]
   dsimp only
   rw[if_pos rfl,decide_eq_false (p:=(z1::z2::t).length=1) (by simp)]
   rfl
end Go.AX.Q33
end
section
namespace Go.AX.Q33
open Go Go.AX
set_option maxRecDepth 8000
def Yu:JAM:=⟨0,false,false,false,0,[],[]⟩
def Z9 (b:List UInt8) (n t:Int):List JAJ:=
 if (Qg b).1=true then [⟨5,n,0,if (Qg b).2=true then 1 else 0,Yi,Yu⟩] else
  if (Ob b).2=12 then [⟨3,n,t,0,Yi,Yu⟩] else [⟨1,n,0,0,(Ob b).1,Yu⟩]
def U9 (s:JAL):Int:=if s.Theirs.Grace<s.Mine.Grace then s.Theirs.Grace else s.Mine.Grace
def Zb (a b:JAL) (m:JAK) (n t:Int):List JAJ:=
 if a.State=3 then (if b.State=3 then (if m.Type_=2 then Z9 m.Body n t else []) else [⟨3,n,t,if m.Type_=3 then 0 else U9 a,Yi,Yu⟩])
 else if b.State=3 then [⟨2,n,0,0,Yi,Yu⟩] else []
theorem V3 {b:List UInt8} (hb:b.length<=400000) (n t:Int):ER b n t=some (Z9 b n t):=by
 unfold ER Z9
 rw[Xa hb,AC]
 dsimp only
 by_cases h1:(Qg b).1=true
 ·rw[if_pos h1,if_pos h1,AG]
  by_cases h2:(Qg b).2=true
  ·rw[if_pos h2,if_pos h2];rfl
  rw[if_neg h2,if_neg h2];rfl
 rw[if_neg h1,if_neg h1,U6 hb,AC]
 by_cases h3:(Ob b).2=12
 ·rw[if_pos (by rw[h3];rfl),if_pos h3];rfl
 rw[if_neg (by simpa using h3),if_neg h3];rfl
theorem YB (b:List UInt8):(Ob b).2=0\/(Ob b).2=12\/(Ob b).2=13:=by
 unfold Ob
 cases HI b with
 | none=>exact .inr (.inl rfl)
 | some P=>
  dsimp only
  split
  ·exact .inl rfl
  split
  ·exact .inr (.inr rfl)
  exact .inl rfl
theorem QU (a b c d:Bool):JAN.eqd ⟨a,b⟩ ⟨c,d⟩=((a==c)&&((b==d)&&true)):=rfl
theorem TV {a b:JAL} {m:JAK} (hm:m.Body.length<=400000) (n t:Int):Di a b m n t=some (Zb a b m n t):=by
 unfold Di Zb
 rw[QU,QU,QU]
 by_cases ha:a.State=3
 ·have e1:(a.State==3)=true:=by rw[ha];rfl
  rw[if_pos ha,e1]
  by_cases hb:b.State=3
  ·have e2:(b.State==3)=true:=by rw[hb];rfl
   rw[if_pos hb,e2,if_neg (by decide),if_neg (by decide),AG,if_pos (by decide)]
   by_cases h2:m.Type_=2
   ·rw[if_pos (by rw[h2];rfl),if_pos h2,V3 hm,AC]
   rw[if_neg (by simpa using h2),if_neg h2]
  have e2:(b.State==3)=false:=by simpa using hb
  rw[if_neg hb,e2,if_neg (by decide),if_pos (by decide),show Dy a=some (U9 a) from rfl,AC,AG]
  by_cases h3:m.Type_=3
  ·rw[if_pos (by rw[h3];rfl),if_pos h3];rfl
  rw[if_neg (by simpa using h3),if_neg h3];rfl
 have e1:(a.State==3)=false:=by simpa using ha
 rw[if_neg ha,e1]
 by_cases hb:b.State=3
 ·have e2:(b.State==3)=true:=by rw[hb];rfl
  rw[if_pos hb,e2,if_pos (by decide)];rfl
 have e2:(b.State==3)=false:=by simpa using hb
 rw[if_neg hb,e2,if_neg (by decide),if_neg (by decide),AG,if_neg (by decide)]
theorem VG {a b:JAL} {m:JAK} (hm:m.Body.length<=400000) (n t:Int):E9 a b m n t=some (Zb a b m n t):=by
 unfold E9 Zb
 by_cases ha:a.State=3
 ·have e1:(a.State==3)=true:=by rw[ha];rfl
  rw[if_pos ha,e1,AG,if_neg (by decide)]
  dsimp only
  rw[if_neg (by decide),AG,if_pos rfl]
  by_cases hb:b.State=3
  ·have e2:(b.State==3)=true:=by rw[hb];rfl
   rw[if_pos hb,e2]
   dsimp only
   rw[if_neg (by decide),AG,if_neg (by decide)]
   by_cases h2:m.Type_=2
   ·have e3:(m.Type_ != 2)=false:=by rw[h2];rfl
    rw[if_pos h2,e3]
    dsimp only
    rw[if_neg (by decide),YH hm,AC]
    unfold Z9
    by_cases h1:(Qg m.Body).1=true
    ·rw[if_pos h1,if_pos h1,AG]
     by_cases h2:(Qg m.Body).2=true
     ·rw[if_pos h2,if_pos h2];rfl
     rw[if_neg h2,if_neg h2];rfl
    rw[if_neg h1,if_neg h1,O5 hm,AC,AG]
    dsimp only
    rcases YB m.Body with h | h | h
    ·rw[h,if_pos (by decide),if_pos rfl,if_neg (by decide)];rfl
    ·rw[h,if_neg (by decide),if_neg (by decide),if_pos rfl];rfl
    rw[h,if_neg (by decide),if_pos (by decide),if_neg (by decide)];rfl
   have e3:(m.Type_ != 2)=true:=by simpa using h2
   rw[if_neg h2,e3]
   dsimp only
   rw[if_pos (by decide)]
  have e2:(b.State==3)=false:=by simpa using hb
  rw[if_neg hb,e2]
  dsimp only
  rw[if_pos (by decide),AG]
  by_cases h3:m.Type_=3
  ·rw[if_neg (by rw[h3];decide),if_pos h3];rfl
  rw[if_pos (by simpa using h3),if_neg h3,show FX a=some (U9 a) from rfl,AC];rfl
 have e1:(a.State==3)=false:=by simpa using ha
 rw[if_neg ha,e1,AG,if_pos (by decide)]
 by_cases hb:b.State=3
 ·have e2:(b.State==3)=true:=by rw[hb];rfl
  rw[if_pos hb,e2]
  dsimp only
  rw[if_pos (by decide)];rfl
 have e2:(b.State==3)=false:=by simpa using hb
 rw[if_neg hb,e2]
 dsimp only
 rw[if_neg (by decide),AG,if_neg (by decide)]
 dsimp only
 rw[if_neg (by decide),AG,if_pos (by decide)]
 dsimp only
 rw[if_pos rfl]
theorem Ew {α ρ:Type} {K:Unit->Option ρ} {body:(Unit->Option ρ)->α->Nat->Unit->Option ρ} {l:List α} (hb :∀next x (i:Nat),geti l (i:Int)=some x->body next x i ()=next ()):An K body l 0 ()=K ():=by
 have key :∀(t:List α) (i:Nat),(∃p,l=p++t/\p.length=i)->An K body t i ()=K ():=by
  intro t
  induction t with
  | nil=>intro i _;rfl
  | cons x t ih=>
   rintro i ⟨p,hp,hl⟩
   rw[G2,hb _ x i (by rw[hp,<- hl];exact KI p x t)]
   exact ih (i + 1) ⟨p++[x],by rw[hp];simp,by rw[X11,hl];rfl⟩
 exact key l 0 ⟨[],rfl,rfl⟩
theorem VD (p:JAD):JAD.eqd p p=true:=(JAD.eqd_iff p p).2 rfl
theorem XF (p:Addr):Addr.eqd p p=true:=(Addr.eqd_iff p p).2 rfl
theorem XC (p:JAA):JAA.eqd p p=true:=by unfold JAA.eqd;simp
theorem Xn (p:JAE):JAE.eqd p p=true:=by unfold JAE.eqd;simp
theorem XA (p:JAO):JAO.eqd p p=true:=by unfold JAO.eqd;simp
theorem RX (l:List Int):C0 l l=some true:=by
 unfold C0
 rw[if_neg (by simp),AG]
 exact Ew fun next x i h=>by rw[h,AC,if_neg (by simp)]
theorem Vw (a:JAF):DC a a=some true:=by
 unfold DC
 rw[AG,if_neg (by simp),if_neg (by rw[XF];decide),if_neg (by simp),if_neg (by simp),if_neg (by simp),if_neg (by simp),if_neg (by simp),if_neg (by simp)]
 have e:(cond false true ((a.Other.length:Int) != (a.Other.length:Int)))=false:=by simp
 rw[e]
 dsimp only
 rw[if_neg (by decide),AG,Ew (fun next x i h=>by
  rw[AG,h,AC,if_neg (by simp),AC,RX,AC]
  exact if_neg (by decide)),AG,Ew (fun next x i h=>by rw[h,AC,XC];exact if_neg (by decide)),AG,Ew (fun next x i h=>by rw[h,AC,Xn];exact if_neg (by decide)),AG]
 exact Ew fun next x i h=>by
  have e:(cond false true (!((bs x.Data).toList==(bs x.Data).toList)))=false:=by simp
  rw[AG,h,AC,if_neg (by simp),AC,if_neg (by simp),AC,e]
  exact if_neg (by decide)
theorem X8 (a:JAM):HL a a=some true:=by
 unfold HL
 have e:(cond false true ((a.JAO.length:Int) != (a.JAO.length:Int)))=false:=by simp
 rw[AG,if_neg (by simp),if_neg (by simp),if_neg (by simp),if_neg (by simp),if_neg (by simp),RX,AC,if_neg (by decide),e]
 dsimp only
 rw[if_neg (by decide),AG]
 exact Ew fun next x i h=>by rw[h,AC,XA];exact if_neg (by decide)
theorem Yr (u:JAH):D3 u u=some true:=by
 unfold D3
 rw[AG,if_neg (by simp),if_neg (by simp),Vw,AC]
 dsimp only
 rw[if_neg (by decide),AG,Ew (fun next x i h=>by rw[h,AC,VD];exact if_neg (by decide)),AG]
 exact Ew fun next x i h=>by rw[h,AC,VD];exact if_neg (by decide)
theorem XS (l:List JAJ):He l l=some true:=by
 unfold He
 rw[if_neg (by simp),AG]
 exact Ew fun next x i h=>by
  rw[h,AC,AG,if_neg (by simp),if_neg (by simp),if_neg (by simp),if_neg (by simp),X8,AC,if_neg (by decide),Yr,AC]
  exact if_neg (by decide)
theorem WA {v n:Int} (hn:1<=n/\n<=2000000000):Ok (FC v n) fun r=>0<=r/\r<n:=by
 unfold FC
 have h1:=Int.tmod_lt_of_pos v (show 0<n by omega)
 have h2:-n<Int.tmod v n:=by
  have:=Int.lt_tmod_of_pos v (show 0<n by omega)
  exact this
 refine .bind (.chk (by omega)) fun _ _=>.join (fun r=>0<=r/\r<n) (fun k hk=>.ite (fun hc=>hk _ ?_) fun hc=>hk _ ?_) fun r hr=>.ret hr
 ·simp only[decide_eq_true_eq] at hc
  rw[AQ (by omega)]
  omega
 simp only[decide_eq_true_eq] at hc
 omega
theorem GN {d:JAI} {n:Int} (hd:Dk d) (hn:1<=n/\n<=2000000000):Ok (AO d n) fun r=>0<=r.1/\r.1<n/\Dk r.2:=by
 obtain⟨h1,h2⟩:=hd
 unfold AO
 refine .ite (fun _=>.ret ⟨by simp only;omega,by simp only;omega,h1,h2⟩) fun hc=>?_
 simp only[decide_eq_true_eq] at hc
 have e1:AK (d.At + 1)=d.At + 1:=AQ (by omega)
 have e2:AK (d.At + 1 - 1)=d.At:=by rw[AQ (by omega)];omega
 rw[e1,e2]
 exact .bind (.geti (by omega)) fun v _=>.bind (WA hn) fun r hr=>.ret ⟨hr.1,hr.2,by simp only;omega,h2⟩
theorem WM {d:JAI} {n:Int} (hd:Dk d):Ok (D1 d n) fun r=>Dk r.2:=by
 unfold D1
 refine .bind (GN hd (by omega)) ?_
 rintro⟨v1,d1⟩ ⟨_,_,h1⟩
 refine .bind (GN h1 (by omega)) ?_
 rintro⟨v3,d2⟩ ⟨a1,a2,h2⟩
 refine .bind (.geti (by simp only[X12,X13] at *;omega)) fun v5 _=>.bind (GN h2 (by omega)) ?_
 rintro⟨v6,d3⟩ ⟨_,_,h3⟩
 refine .bind (GN h3 (by omega)) ?_
 rintro⟨v8,d4⟩ ⟨b1,b2,h4⟩
 refine .bind (.geti (by simp only[X12,X13] at *;omega)) fun v10 _=>.bind (GN h4 (by omega)) ?_
 rintro⟨v11,d5⟩ ⟨_,_,h5⟩
 exact .ret h5
theorem PC {d:JAI} (hd:Dk d):Ok (EW d) fun r=>Dk r.2:=by
 unfold EW
 refine .bind (GN hd (by omega)) ?_
 rintro⟨v1,d1⟩ ⟨a1,a2,h1⟩
 refine .bind (.geti (by simp only[X12,X13] at *;omega)) fun v3 _=>.bind (WM h1) ?_
 rintro⟨v4,d2⟩ h2
 refine .bind (WM h2) ?_
 rintro⟨v6,d3⟩ h3
 exact .ret h3
theorem Xk (u:JAH):Po (Eo u) fun b=>b=true->∃p,Ep u=some p/\p.1.length<=4077:=by
 unfold Eo
 refine .sel (fun k hk=>.ite (fun _=>hk _) fun _=>hk _) fun v2=>.ite (fun _=>.ret (by simp)) fun _=>.bind fun _ _=>.bind fun v3 _=>?_
 refine .sel (fun k hk=>.for_ (fun _=>True) trivial (fun _ _=>hk _) fun next x i _ _ _ hn=>.bind fun v8 _=>.ite (fun _=>.ret (by simp)) fun _=>hn _ trivial) fun _=>?_
 refine .sel (fun k hk=>.ite (fun _=>.bind fun _ _=>.bind fun _ _=>hk _) fun _=>hk _) fun v12=>.ite (fun _=>.ret (by simp)) fun _=>?_
 refine .sel (fun k hk=>.for_ (fun _=>True) trivial (fun _ _=>hk _) fun next x i _ _ _ hn=>?_) fun _=>?_
 ·refine .sel (fun k hk=>.ite (fun _=>hk _) fun _=>.ite (fun _=>hk _) fun _=>.ite (fun _=>hk _) fun _=>.bind fun _ _=>hk _) fun v19=>.ite (fun _=>.ret (by simp)) fun _=>hn _ trivial
 refine .bind ?_
 rintro⟨v20,v21⟩ hp
 refine .join (fun c=>c=true->v20.length<=4077) (fun k hk=>.ite (fun _=>hk _ fun h=>?_) fun _=>hk _ (by simp)) fun c hc=>.ret fun h=>⟨_,hp,hc h⟩
 simp only[cond_true,decide_eq_true_eq] at h
 omega
theorem W5 {u:JAH} (h:SmV u):Ok (Fa u) fun r=>r.1.length<=5000:=by
 unfold Fa
 refine .bind ((QM h).and (Xk u)) fun b hb=>.ite (fun _=>.ret (by simp)) fun hb'=>?_
 obtain⟨p,hp,hl⟩:=hb.2 (by simpa using hb')
 rw[hp,AC]
 exact .ret (show p.1.length<=5000 by omega)
theorem VZ {d:JAI} (hd:Dk d):Ok (E8 d) fun r=>r.1.Body.length<=5000/\Dk r.2:=by
 unfold E8
 refine .bind (GN hd (by omega)) ?_
 rintro⟨v1,d1⟩ ⟨_,_,h1⟩
 refine .ite (fun _=>.ret ⟨by simp,h1⟩) fun _=>.ite (fun _=>.ret ⟨by simp,h1⟩) fun _=>.ite (fun _=>.bind (.chk (by omega)) fun _ _=>.ret ⟨by simp,h1⟩) fun _=>.ite (fun _=>.ret ⟨by simp,h1⟩) fun _=>?_
 refine .bind (Xp h1) ?_
 rintro⟨u,d2⟩ ⟨hu,h2⟩
 refine .bind (W5 hu) ?_
 rintro⟨bb,e⟩ hl
 dsimp only at hl ⊢
 refine .join (fun p=>Dk p.2/\(p.1=true->0<bb.length)) (fun k hk=>.bind (GN h2 (by omega)) ?_) ?_
 ·rintro⟨v8,d3⟩ ⟨_,_,h3⟩
  exact .ite (fun _=>hk _ ⟨h3,fun q=>by simp only[cond_true,decide_eq_true_eq] at q;omega⟩) fun _=>hk _ ⟨h3,by simp⟩
 rintro⟨c,d3⟩ ⟨h3,hc⟩
 dsimp only at h3 hc ⊢
 refine .join (fun p=>p.1.length<=5000/\Dk p.2) (fun k hk=>.ite (fun hcc=>?_) fun _=>hk _ ⟨hl,h3⟩) fun p hp=>.ret hp
 have hpos:=hc hcc
 refine .bind (.apnd (by decide) (by simp;omega)) fun _ _=>.bind (GN h3 (by omega)) ?_
 rintro⟨v13,d4⟩ ⟨b1,b2,h4⟩
 refine .bind (GN h4 (by omega)) ?_
 rintro⟨v15,d5⟩ ⟨_,_,h5⟩
 refine .bind (.geti (by omega)) fun v17 _=>.bind (.seti (by omega)) fun v18 hv=>hk _ ⟨?_,h5⟩
 rw[hv.1]
 simpa using hl
theorem Uz:Gl=some true:=by kernel_rfl
theorem aS (l:List Int):IQ l=some ⟨l,0⟩:=rfl
def aW (b:RIB) (n:Int):Bool:=(b.Until != 0)&&decide (b.Until<=n)
theorem PH (b:RIB) (n:Int):Ee b n=some (aW b n):=by
 unfold Ee aW
 rw[AG]
 cases (b.Until != 0)<;>rfl
theorem We (b:RIB) (n:Int):IV b n=some (aW b n):=PH b n
theorem bX {m:Option Bool} (h:Ok m fun r=>r=true):m=some true:=by
 obtain⟨r,h1,h2⟩:=h
 rw[h1,h2]
theorem restartRecords (m:JAK) (l:List Int) (a n u:Int) (hl:l.length<=maxLen):Ce m l a n u=some true:=by
 refine bX ?_
 have hD:Dk ⟨l,0⟩:=⟨by simp only;omega,by simp only[maxLen] at hl ⊢;omega⟩
 unfold Ce
 refine .ite (fun _=>by rw[Uz,AC];exact .ret rfl) fun hb=>?_
 have hb:m.Body.length<=600:=by
  simp only[decide_eq_true_eq] at hb
  omega
 rw[aS,AC]
 refine .join (fun _:Unit=>True) (fun k hk=>?_) fun _ _=>?_
 ·refine .whileI (fun s:Int×JAI=>0<=s.1/\s.1<=6/\Dk s.2) (fun s=>(6 - s.1).toNat) ⟨by simp only;omega,by simp only;omega,hD⟩ (Bo (by simp only;omega)) ?_
  rintro next ⟨i,d⟩ ⟨i0,i6,hd⟩ hn
  dsimp only at i0 i6 hd ⊢
  refine .ite (fun hc=>?_) fun _=>hk _ trivial
  simp only[decide_eq_true_eq] at hc
  refine .bind (PC hd) ?_
  rintro⟨s1,d1⟩ h1
  refine .bind (PC h1) ?_
  rintro⟨s2,d2⟩ h2
  refine .bind (VZ h2) ?_
  rintro⟨m1,d3⟩ ⟨hb1,h3⟩
  refine .join (fun x:JAK=>x.Body.length<=5000) (fun k hk=>.ite (fun _=>hk _ (by omega)) fun _=>hk _ hb1) fun m2 hm2=>?_
  refine .join (fun c=>c=false) (fun k hk=>?_) fun c hc=>?_
  ·rw[show Dy s1=some (U9 s1) from rfl,AC,show FX s1=some (U9 s1) from rfl,AC,if_neg (by simp),TV (by omega),AC,VG (by omega),AC,XS,AC]
   exact hk _ rfl
  subst hc
  rw[AQ (x:=i + 1) (by omega)]
  exact .ite (fun h=>nomatch h) fun _=>hn _ ⟨by simp only;omega,by simp only;omega,h3⟩ (by simp only;omega)
 refine .bind (WA (by omega)) fun v22 _=>.join (fun c=>c=true) (fun k hk=>?_) fun c hc=>.ret hc
 obtain⟨w,hw,_⟩:=WA (v:=n) (n:=40) (by omega)
 rw[hw,AC,PH,AC,AC,We,AC,if_pos (by simp),PH,AC,We,AC,if_pos (by simp),Uz,AC]
 exact hk _ rfl
end Go.AX.Q33
end
section
namespace Go.AX.Q33
open Go Go.AX
theorem Oa (m:JAK) (l:List Int) (a n u:Int) (_:JAK.wf m) (h:l.length<=maxLen/\l.length * 8<=reachBytes/\∀a ∈ l,I64 a) (_:I64 a) (_:I64 n) (_:I64 u):Ce m l a n u=some true:=restartRecords m l a n u h.1
end Go.AX.Q33
end
section
namespace Go.AX.Q33
open Go Go.AX Go.Proofs
set_option maxRecDepth 100000
set_option maxHeartbeats 4000000
set_option linter.unusedVariables false
theorem GK {wl:Prop} {a0:JAL} {r:Int} (h:Dy a0=some r):CallsOK (Wl wl) Tryz.prog 10 [AV.d (JAL.toD a0)] [] (.d (D.i r)) []:=by
 refine oK Tryz.f10 ⟨rfl,?_⟩;unfold Dy at h;refine⟨_,rfl,?_⟩;cases h;exact⟨rfl,rfl⟩
theorem Jl {wl:Prop} {a0:List UInt8} {a1:List UInt8} {r:Bool} (h:bytes_Equal a0 a1=some r):CallsOK (Wl wl) Tryz.prog 95 [AV.d (D.l 1 D.u8 a0),AV.d (D.l 1 D.u8 a1)] [] (.d (D.b r)) []:=by
 refine oK Tryz.f95 ⟨rfl,?_⟩;unfold bytes_Equal at h;refine⟨a0,rfl,?_⟩;refine⟨a1,rfl,?_⟩;cases h;exact⟨rfl,rfl⟩
theorem KL {wl:Prop} {a0:List JAB} {r:(List JAB)} (h:DI a0=some r):CallsOK (Wl wl) Tryz.prog 138 [AV.d (D.l 3 JAB.toD a0)] [] (.d (D.l 3 JAB.toD r)) []:=by
 refine oK Tryz.f138 ⟨rfl,?_⟩;unfold DI at h;refine⟨a0.length,X10 _,?_⟩;revert h;refine AD (fun v1=>⟨dd 4 (yO 4 JAB.toD v1::dd 23 ([])),nn 4 (yR 144 3 JAB.toD v1::nn 23 ([]))⟩) ?_ ?_
 ·intro k2 h;revert h;refine AW 8 3 JAB.toD rfl (fun i3 (v4,v5)=>⟨X::X::X::AV.mp 7::yO 4 JAB.toD v5::X::X::X::y0 a0::yi (a0.length:Int)::yi (i3:Int)::dd 17 ([]),nn 4 (yR 144 3 JAB.toD v5::N::N::some (OB.map 3 4 (BS D.i D.b v4))::nn 20 ([]))⟩) ?_ ?_ ?_
  ·exact wk
  ·rintro⟨v4,v5⟩ K6 h;(conv=>whnf);refine .go ?_;(conv=>whnf);refine A9 CP ?_;exact AA wk h
  rintro next7 i3 x8 ⟨v4,v5⟩ K6 hii3 hxi3 hwi3 h hK9;(conv=>whnf);refine .go ?_;(conv=>whnf);refine A8 (CC hii3) ?_;(conv=>whnf);refine .go ?_;refine⟨A4 (f:=JAB.toD) hii3,JAB.toD x8,hxi3,rfl,?_⟩;obtain⟨v10,g11,h⟩:=AB h;refine⟨_,Dn (ek:=D.i) (ev:=D.b) (l:=v4) (k:=x8.Type_) B0,D.b v10,Gz (z:=false) rfl g11,_,rfl,?_⟩;revert h;refine AD (fun v12=>⟨X::X::X::AV.mp 7::yO 4 JAB.toD v12::X::yr 6 0::X::y0 a0::yi (a0.length:Int)::yi (i3:Int)::dd 17 ([]),nn 4 (yR 144 3 JAB.toD v12::N::yB (JAB.av x8)::some (OB.map 3 4 (BS D.i D.b v4))::nn 20 ([]))⟩) ?_ ?_
  ·intro k13 h;refine sJ h (fun h=>?_) fun h=>AA wk h;refine⟨rfl,?_⟩;obtain⟨v14,g15,h⟩:=AB h;refine⟨rfl,Ae (f:=JAB.toD) (g:=JAB.toD) g15,_,Af (f:=JAB.toD) g15,?_⟩;exact AA wk h
  rintro v12 h;refine⟨_,D6 (ek:=D.i) (ev:=D.b) (l:=v4) (k:=x8.Type_) (v:=true) B0,?_⟩;refine⟨_,hwi3,?_⟩;exact hK9 _ _ wk h
 rintro v1 h;(conv=>whnf);refine .inl ?_;(conv=>whnf);refine .inl ?_;refine⟨rfl,?_⟩;cases h;exact⟨rfl,rfl⟩
theorem Gh {wl:Prop} {a0:Int} {r:Bool} (h:Ba a0=some r):CallsOK (Wl wl) Tryz.prog 140 [AV.d (D.i a0)] [] (.d (D.b r)) []:=by
 refine oK Tryz.f140 ⟨rfl,?_⟩;unfold Ba at h;revert h;refine AD (fun v1=>⟨X::X::yb v1::dd 12 ([]),nn 15 ([])⟩) ?_ ?_
 ·intro k2 h;obtain⟨v3,g4,h⟩:=AB h;refine⟨_,Dn (ek:=D.i) (ev:=D.i) (l:=I8) (k:=a0) B0,D.i v3,Gz (z:=0) rfl g4,_,rfl,?_⟩;refine sJ h (fun h=>?_) fun h=>AA wk h;exact sJ h (fun h=>AA wk h) fun h=>AA wk h
 rintro v1 h;cases h;exact⟨rfl,rfl⟩
theorem KP {wl:Prop} {a0:JAB} {r:Bool} (h:DJ a0=some r):CallsOK (Wl wl) Tryz.prog 139 [AV.d (JAB.toD a0)] [] (.d (D.b r)) []:=by
 refine oK Tryz.f139 ⟨rfl,?_⟩;unfold DJ at h;revert h;refine AD (fun v1=>⟨X::X::yb v1::dd 9 ([]),nn 12 ([])⟩) ?_ ?_
 ·intro k2 h;obtain⟨v3,g4,h⟩:=AB h;refine⟨_,_,some [],Gh g4,?_⟩;refine sJ h (fun h=>?_) fun h=>AA wk h;refine⟨_,rfl,?_⟩;exact AA wk h
 rintro v1 h;cases h;exact⟨rfl,rfl⟩
theorem LK {wl:Prop}  {r:JAF} (h:FD=some r):CallsOK (Wl wl) Tryz.prog 100 [] [] (.d (JAF.toD r)) []:=by
 refine oK Tryz.f100 ⟨rfl,?_⟩;unfold FD at h;cases h;exact⟨rfl,rfl⟩
theorem BO {wl:Prop} {a0:JAB} {r:Bool} (h:BC a0=some r):CallsOK (Wl wl) Tryz.prog 175 [AV.d (JAB.toD a0)] [] (.d (D.b r)) []:=by
 refine oK Tryz.f175 ⟨rfl,?_⟩;unfold BC at h;revert h;refine AD (fun v1=>⟨X::X::yb v1::dd 22 ([]),nn 25 ([])⟩) ?_ ?_
 ·intro k2 h;obtain⟨v3,g4,h⟩:=AB h;refine⟨_,Dn (ek:=D.i) (ev:=D.i) (l:=I8) (k:=a0.Type_) B0,D.i v3,Gz (z:=0) rfl g4,_,rfl,?_⟩;refine⟨_,rfl,?_⟩;refine⟨_,rfl,?_⟩;refine sJ h (fun h=>?_) fun h=>AA wk h;obtain⟨v5,g6,h⟩:=AB h;refine⟨_,Dn (ek:=D.i) (ev:=D.i) (l:=I8) (k:=a0.Type_) B0,D.i v5,Gz (z:=0) rfl g6,_,rfl,?_⟩;refine sJ h (fun h=>AA wk h) fun h=>?_;refine⟨_,rfl,?_⟩;exact AA wk h
 rintro v1 h;cases h;exact⟨rfl,rfl⟩
theorem CS {wl:Prop} {a0:List UInt8} {r:Int} (h:Bl a0=some r):CallsOK (Wl wl) Tryz.prog 170 [AV.d (D.l 1 D.u8 a0)] [] (.d (D.i r)) []:=by
 refine oK Tryz.f170 ⟨rfl,?_⟩;unfold Bl at h;refine⟨a0.length,X10 _,?_⟩;revert h;refine AD (fun v1=>⟨X::X::X::yi v1::dd 15 ([]),nn 19 ([])⟩) ?_ ?_
 ·intro k2 h;revert h;refine AW 6 1 D.u8 rfl (fun i3 v4=>⟨X::X::X::yi v4::X::X::y1 a0::yi (a0.length:Int)::yi (i3:Int)::dd 10 ([]),nn 19 ([])⟩) ?_ ?_ ?_
  ·exact wk
  ·rintro v4 K5 h;(conv=>whnf);refine .go ?_;(conv=>whnf);refine A9 CP ?_;exact AA wk h
  rintro next6 i3 x7 v4 K5 hii3 hxi3 hwi3 h hK8;(conv=>whnf);refine .go ?_;(conv=>whnf);refine A8 (CC hii3) ?_;(conv=>whnf);refine .go ?_;refine⟨A4 (f:=D.u8) hii3,D.u8 x7,hxi3,rfl,?_⟩;refine⟨by decide,_,rfl,?_⟩;refine⟨_,A3 x7,?_⟩;refine⟨_,rfl,?_⟩;refine⟨_,hwi3,?_⟩;exact hK8 _ _ wk h
 rintro v1 h;cases h;exact⟨rfl,rfl⟩
theorem Ej {wl:Prop} {a0:List UInt8} {r:(List Int)} (h:B8 a0=some r):CallsOK (Wl wl) Tryz.prog 260 [AV.d (D.l 1 D.u8 a0)] [] (AV.own 0 (List.map D.i r).length) [.row 3 1 (List.map D.i r) .no]:=by
 refine oK Tryz.f260 ⟨rfl,?_⟩;unfold B8 at h;revert h;refine AD (fun v1=>⟨X::X::X::yO 3 D.i v1::dd 12 ([]),N::N::N::yR 3 1 D.i v1::nn 12 ([])⟩) ?_ ?_
 ·intro k2 h;revert h;refine Ab (fun (v3,v4)=>⟨y1 v3::X::X::yO 3 D.i v4::dd 12 ([]),N::N::N::yR 3 1 D.i v4::nn 12 ([])⟩) ?_ ?_
  ·exact wk
  rintro next5 ⟨v3,v4⟩ K6 h hK7;refine⟨v3.length,X10 _,?_⟩;(conv=>whnf);refine .go ?_;refine sJ h (fun h=>?_) fun h=>AA wk h;(conv=>whnf);refine .go ?_;obtain⟨v8,g9,h⟩:=AB h;refine⟨BX (f:=D.u8) g9,_,BI (f:=D.u8) g9,?_⟩;obtain⟨v10,g11,h⟩:=AB h;refine⟨_,_,some [],CS g11,?_⟩;refine⟨rfl,?_⟩;obtain⟨v12,g13,h⟩:=AB h;refine⟨rfl,Ae (f:=D.i) (g:=D.i) g13,_,Af (f:=D.i) g13,?_⟩;obtain⟨v14,g15,h⟩:=AB h;refine⟨CH (f:=D.u8) g15,_,CJ (f:=D.u8) g15,?_⟩;exact hK7 _ _ wk h
 rintro v1 h;(conv=>whnf);refine .inl ?_;(conv=>whnf);refine .inr ?_;cases h;exact⟨rfl,rfl⟩
theorem Hk {wl:Prop} {a0:List Int} {r:(List Int)} (h:BV a0=some r):CallsOK (Wl wl) Tryz.prog 262 [AV.own 0 (List.map D.i a0).length] [.row 3 1 (List.map D.i a0) .no] (AV.own 1 (List.map D.i r).length) [.gone,.row 3 1 (List.map D.i r) .no]:=by
 refine oK Tryz.f262 ⟨rfl,?_⟩;unfold BV at h;refine⟨a0.length,by first | exact X10 _ | rfl | (simp only[X10];omega),?_⟩;(conv=>whnf);refine .go ?_;refine sJ h ?_ ?_<;>intro h
 ·(conv=>whnf);refine .inr ?_;cases h;exact⟨rfl,rfl⟩
 revert h;refine AD (fun _=>⟨yO 0 D.i a0::dd 60 ([]),yR 3 1 D.i a0::nn 61 ([])⟩) ?_ ?_
 ·intro k1 h;revert h;refine Ab (fun v2=>⟨yO 0 D.i a0::X::X::yi v2::dd 57 ([]),yR 3 1 D.i a0::nn 61 ([])⟩) ?_ ?_
  ·exact wk
  rintro next3 v2 K4 h hK5;refine⟨a0.length,by first | exact X10 _ | rfl | (simp only[X10];omega),?_⟩;(conv=>whnf);refine .go ?_;refine sJ h (fun h=>?_) fun h=>AA wk h;revert h;refine AD (fun _=>⟨yO 0 D.i a0::X::X::yi v2::dd 57 ([]),yR 3 1 D.i a0::nn 61 ([])⟩) ?_ ?_
  ·intro k6 h;(conv=>whnf);refine .inl (dO ?_);obtain⟨v7,g8,h⟩:=AB h;refine⟨rfl,AL (f:=D.i) g8,?_⟩;refine⟨rfl,D.i v7,(AM (f:=D.i) g8),?_⟩;refine⟨_,rfl,?_⟩;obtain⟨v9,g10,h⟩:=AB h;refine⟨rfl,AL (f:=D.i) g10,?_⟩;refine⟨rfl,D.i v9,(AM (f:=D.i) g10),?_⟩;(conv=>whnf);refine cO ?_;(conv=>whnf);refine .go ?_;refine sJ h (fun h=>?_) fun h=>AA wk h;(conv=>whnf);refine .inr (.inl ?_);obtain⟨_,g11,h⟩:=AB h;have g56c:=EJ g11;refine⟨Iw (f:=D.i) g11,rfl,(Int.toNat v2),(Int.toNat (a0.length:Int) - Int.toNat v2),rfl,(by rw[X10]),?_⟩;revert h;refine AD (fun (v12,v13)=>⟨yO 0 D.i v13::X::X::yi v12::dd 57 ([]),yR 3 1 D.i v13::nn 61 ([])⟩) ?_ ?_
   ·intro k14 h;revert h;refine Ab (fun (v15,v16,v17)=>⟨yO 0 D.i v17::X::X::yi v15::AV.osl 0 (Int.toNat v2) (Int.toNat (a0.length:Int) - Int.toNat v2) (List.map D.i v17).length::yi v16::dd 55 ([]),yR 3 1 D.i v17::nn 61 ([])⟩) ?_ ?_
    ·exact wk
    rintro next18 ⟨v15,v16,v17⟩ K19 h hK20;refine⟨(Int.toNat (a0.length:Int) - Int.toNat v2),rfl,?_⟩;(conv=>whnf);refine .go ?_;refine sJ h (fun h=>?_) fun h=>AA wk h;(conv=>whnf);refine .go ?_;(conv=>whnf);refine .inl (dO ?_);obtain⟨v21,g22,h⟩:=AB h;refine⟨(by first | rfl | (simp only[X10,X21];omega)|(simp only[cpy,X10,X21,X11,X18,X17,X20];omega)),Io g22,_,rfl,?_⟩;refine⟨rfl,D.i v21,(I0 (f:=D.i) g22),?_⟩;refine⟨_,rfl,?_⟩;obtain⟨v23,g24,h⟩:=AB h;refine⟨(by first | rfl | (simp only[X10,X21];omega)|(simp only[cpy,X10,X21,X11,X18,X17,X20];omega)),Io g24,_,rfl,?_⟩;refine⟨rfl,D.i v23,(I0 (f:=D.i) g24),?_⟩;(conv=>whnf);refine cO ?_;revert h;refine AD (fun (v25,v26)=>⟨yO 0 D.i v26::X::X::yi v25::AV.osl 0 (Int.toNat v2) (Int.toNat (a0.length:Int) - Int.toNat v2) (List.map D.i v26).length::yi v16::dd 55 ([]),yR 3 1 D.i v26::nn 61 ([])⟩) ?_ ?_
    ·intro k27 h;refine sJ h (fun h=>?_) fun h=>AA wk h;obtain⟨v28,g29,h⟩:=AB h;refine⟨(by first | rfl | (simp only[X10,X21];omega)|(simp only[cpy,X10,X21,X11,X18,X17,X20];omega)),Io g29,_,rfl,?_⟩;refine⟨rfl,D.i v28,(I0 (f:=D.i) g29),?_⟩;obtain⟨v30,g31,h⟩:=AB h;refine⟨rfl,AL (f:=D.i) g31,?_⟩;obtain⟨v32,g33,h⟩:=AB h;have g33l:=GX g33;refine⟨rfl,rfl,D.i v30,(AM (f:=D.i) g31),?_⟩;refine⟨_,JW (f:=D.i) g33,?_⟩;refine⟨_,rfl,?_⟩;exact AA wk h
    rintro⟨v25,v26⟩ h;refine⟨_,rfl,?_⟩;exact hK20 _ _ wk h
   rintro⟨v12,v13⟩ h;(conv=>whnf);refine .inr (.inl ?_);obtain⟨_,g34,h⟩:=AB h;have g96c:=EJ g34;refine⟨Iw (f:=D.i) g34,rfl,(Int.toNat v12),(Int.toNat (v13.length:Int) - Int.toNat v12),rfl,(by rw[X10]),?_⟩;refine⟨(by first | rfl | (simp only[X10,X21];omega)|(simp only[cpy,X10,X21,X11,X18,X17,X20];omega)),D.i 0,rfl,List.map D.i (List.take (Int.toNat v12) v13++List.replicate (Int.toNat (v13.length:Int) - Int.toNat v12) 0++List.drop ((Int.toNat v12) + (Int.toNat (v13.length:Int) - Int.toNat v12)) v13),TQ,?_⟩;(conv=>whnf);refine .inr (.inr ?_);obtain⟨v35,g36,h⟩:=AB h;refine⟨TJ (f:=D.i) g36,(by first | rfl | (simp only[X10];omega)|(simp only[cpy,X10,X21,X11,X18,X17,X20];omega)),_,BI (f:=D.i) g36,?_⟩;(conv=>whnf);refine .inl ?_;(conv=>whnf);refine .inr ?_;cases h;exact⟨rfl,rfl⟩
  rintro _ h;refine⟨_,rfl,?_⟩;exact hK5 _ _ wk h
 rintro _ h;(conv=>whnf);refine .inr ?_;cases h;exact⟨rfl,rfl⟩
theorem II {wl:Prop} {a0:Int} {r:Bool} (h:EV a0=some r):CallsOK (Wl wl) Tryz.prog 259 [AV.d (D.i a0)] [] (.d (D.b r)) []:=by
 refine oK Tryz.f259 ⟨rfl,?_⟩;unfold EV at h;revert h;refine AD (fun v1=>⟨X::X::yb v1::dd 6 ([]),nn 9 ([])⟩) ?_ ?_
 ·intro k2 h;exact sJ h (fun h=>AA wk h) fun h=>AA wk h
 rintro v1 h;cases h;exact⟨rfl,rfl⟩
theorem OZ {wl:Prop} {a0:List JAC} {r:Bool} (h:Fv a0=some r):CallsOK (Wl wl) Tryz.prog 263 [AV.d (D.l 2 JAC.toD a0)] [] (.d (D.b r)) []:=by
 refine oK Tryz.f263 ⟨rfl,?_⟩;unfold Fv at h;refine⟨a0.length,X10 _,?_⟩;revert h;refine AD (fun v1=>⟨X::X::X::yi v1::dd 71 ([]),nn 75 ([])⟩) ?_ ?_
 ·intro k2 h;revert h;refine AW 8 2 JAC.toD rfl (fun i3 v4=>⟨y2 a0::X::X::yi v4::dd 4 (y2 a0::yi (a0.length:Int)::yi (i3:Int)::dd 64 ([])),nn 75 ([])⟩) ?_ ?_ ?_
  ·exact wk
  ·rintro v4 K5 h;(conv=>whnf);refine .go ?_;(conv=>whnf);refine A9 CP ?_;exact AA wk h
  rintro next6 i3 x7 v4 K5 hii3 hxi3 hwi3 h hK8;(conv=>whnf);refine .go ?_;(conv=>whnf);refine A8 (CC hii3) ?_;revert h;refine AD (fun _=>⟨y2 a0::X::X::yi (AK (v4 + (x7.ASNs.length:Int)))::dd 4 (y2 a0::yi (a0.length:Int)::yi (i3:Int)::dd 64 ([])),nn 75 ([])⟩) ?_ ?_
  ·intro k9 h;refine⟨A4 (f:=JAC.toD) hii3,JAC.toD x7,hxi3,rfl,?_⟩;revert h;refine AD (fun v10=>⟨y2 a0::X::X::yi v4::X::yr 5 0::X::X::y2 a0::yi (a0.length:Int)::yi (i3:Int)::dd 25 (yb v10::dd 38 ([])),nn 5 (yB (JAC.av x7)::nn 69 ([]))⟩) ?_ ?_
   ·intro k11 h;refine⟨x7.ASNs.length,X10 _,?_⟩;refine sJ h (fun h=>AA wk h) fun h=>?_;refine sJ h (fun h=>?_) fun h=>AA wk h;refine sJ h (fun h=>?_) fun h=>AA wk h;refine⟨_,rfl,?_⟩;obtain⟨v12,g13,h⟩:=AB h;refine⟨AL (f:=JAC.toD) g13,JAC.toD v12,AM (f:=JAC.toD) g13,rfl,?_⟩;exact AA wk h
   rintro v10 h;(conv=>whnf);refine .go ?_;refine sJ h ?_ ?_<;>intro h
   ·cases h;exact⟨rfl,rfl⟩
   refine⟨x7.ASNs.length,X10 _,?_⟩;revert h;refine AD (fun _=>⟨y2 a0::X::X::yi v4::X::yr 5 0::X::X::y2 a0::yi (a0.length:Int)::yi (i3:Int)::dd 64 ([]),nn 5 (yB (JAC.av x7)::nn 69 ([]))⟩) ?_ ?_
   ·intro k14 h;revert h;refine AW 38 1 D.i rfl (fun i15 _=>⟨y2 a0::X::X::yi v4::X::yr 5 0::X::X::y2 a0::yi (a0.length:Int)::yi (i3:Int)::dd 27 (AV.d (D.l 1 D.i x7.ASNs)::yi (x7.ASNs.length:Int)::yi (i15:Int)::dd 34 ([])),nn 5 (yB (JAC.av x7)::nn 69 ([]))⟩) ?_ ?_ ?_
    ·exact wk
    ·rintro _ K16 h;(conv=>whnf);refine .go ?_;(conv=>whnf);refine A9 CP ?_;exact AA wk h
    rintro next17 i15 x18 _ K16 hii15 hxi15 hwi15 h hK19;(conv=>whnf);refine .go ?_;(conv=>whnf);refine A8 (CC hii15) ?_;(conv=>whnf);refine .go ?_;refine⟨A4 (f:=D.i) hii15,D.i x18,hxi15,rfl,?_⟩;revert h;refine AD (fun v20=>⟨y2 a0::X::X::yi v4::X::yr 5 0::X::X::y2 a0::yi (a0.length:Int)::yi (i3:Int)::dd 27 (AV.d (D.l 1 D.i x7.ASNs)::yi (x7.ASNs.length:Int)::yi (i15:Int)::dd 24 (yb v20::dd 9 ([]))),nn 5 (yB (JAC.av x7)::nn 69 ([]))⟩) ?_ ?_
    ·intro k21 h;obtain⟨v22,g23,h⟩:=AB h;refine⟨_,_,some [],II g23,?_⟩;refine sJ h (fun h=>AA wk h) fun h=>?_;refine sJ h (fun h=>?_) fun h=>AA wk h;refine sJ h (fun h=>?_) fun h=>AA wk h;refine⟨_,rfl,?_⟩;obtain⟨v24,g25,h⟩:=AB h;refine⟨AL (f:=D.i) g25,D.i v24,AM (f:=D.i) g25,rfl,?_⟩;exact AA wk h
    rintro v20 h;(conv=>whnf);refine .go ?_;refine sJ h ?_ ?_<;>intro h
    ·cases h;exact⟨rfl,rfl⟩
    refine⟨_,hwi15,?_⟩;exact hK19 _ _ wk h
   rintro _ h;refine⟨x7.ASNs.length,X10 _,?_⟩;refine⟨_,rfl,?_⟩;exact AA wk h
  rintro _ h;refine⟨_,hwi3,?_⟩;exact hK8 _ _ wk h
 rintro v1 h;cases h;exact⟨rfl,rfl⟩
theorem Fp {wl:Prop} {a0:List UInt8} {r:Addr×Int} (h:A7 a0=some r):CallsOK (Wl wl) Tryz.prog 172 [AV.d (D.l 1 D.u8 a0)] [] (.tup [.d (Addr.toD r.1),.d (D.i r.2)]) []:=by
 refine oK Tryz.f172 ⟨rfl,?_⟩;unfold A7 at h;revert h;refine AD (fun v1=>⟨y1 a0::X::yr 2 0::dd 11 (yb v1::dd 28 ([])),N::N::yB Addr.zv::nn 40 ([])⟩) ?_ ?_
 ·intro k2 h;refine⟨a0.length,X10 _,?_⟩;refine sJ h (fun h=>?_) fun h=>AA wk h;refine⟨a0.length,X10 _,?_⟩;exact AA wk h
 rintro v1 h;(conv=>whnf);refine .go ?_;refine sJ h ?_ ?_<;>intro h
 ·cases h;exact⟨rfl,rfl⟩
 refine⟨a0.length,X10 _,?_⟩;refine⟨a0.length,X10 _,?_⟩;revert h;refine AD (fun v3=>⟨X::X::yr 2 0::X::yr 4 0::dd 38 ([]),N::N::yB Addr.zv::N::yB (Addr.av v3)::nn 38 ([])⟩) ?_ ?_
 ·intro k4 h;revert h;refine AW 20 1 D.u8 rfl (fun i5 v6=>⟨X::X::yr 2 0::X::yr 4 0::dd 15 (y1 a0::yi (a0.length:Int)::yi (i5:Int)::dd 20 ([])),N::N::yB Addr.zv::N::yB (Addr.av v6)::nn 38 ([])⟩) ?_ ?_ ?_
  ·exact wk
  ·rintro v6 K7 h;(conv=>whnf);refine .go ?_;(conv=>whnf);refine A9 CP ?_;exact AA wk h
  rintro next8 i5 x9 v6 K7 hii5 hxi5 hwi5 h hK10;(conv=>whnf);refine .go ?_;(conv=>whnf);refine A8 (CC hii5) ?_;(conv=>whnf);refine .go ?_;refine⟨A4 (f:=D.u8) hii5,D.u8 x9,hxi5,rfl,?_⟩;refine⟨by decide,_,As _,?_⟩;refine⟨by decide,_,SX v6.Lo _,?_⟩;refine⟨_,As _,?_⟩;refine⟨by decide,_,As _,?_⟩;refine⟨_,As _,?_⟩;refine⟨_,As _,?_⟩;refine⟨_,hwi5,?_⟩;exact hK10 _ _ wk h
 rintro v3 h;cases h;exact⟨rfl,rfl⟩
end Go.AX.Q33
end
section
namespace Go.AX.Q33
open Go Go.AX Go.Proofs
set_option maxRecDepth 100000
set_option maxHeartbeats 4000000
set_option linter.unusedVariables false
theorem Dz {wl:Prop} {a0:List JAA} {r:(List JAA)} (h:Am a0=some r):CallsOK (Wl wl) Tryz.prog 273 [AV.own 0 (List.map JAA.toD a0).length] [.row 191 2 (List.map JAA.toD a0) .no] (AV.own 1 (List.map JAA.toD r).length) [.gone,.row 191 2 (List.map JAA.toD r) .no]:=by
 refine oK Tryz.f273 ⟨rfl,?_⟩;unfold Am at h;refine⟨a0.length,by first | exact X10 _ | rfl | (simp only[X10];omega),?_⟩;(conv=>whnf);refine .go ?_;refine sJ h ?_ ?_<;>intro h
 ·(conv=>whnf);refine .inr ?_;cases h;exact⟨rfl,rfl⟩
 revert h;refine AD (fun _=>⟨yO 0 JAA.toD a0::dd 60 ([]),yR 191 2 JAA.toD a0::nn 61 ([])⟩) ?_ ?_
 ·intro k1 h;revert h;refine Ab (fun v2=>⟨yO 0 JAA.toD a0::X::X::yi v2::dd 57 ([]),yR 191 2 JAA.toD a0::nn 61 ([])⟩) ?_ ?_
  ·exact wk
  rintro next3 v2 K4 h hK5;refine⟨a0.length,by first | exact X10 _ | rfl | (simp only[X10];omega),?_⟩;(conv=>whnf);refine .go ?_;refine sJ h (fun h=>?_) fun h=>AA wk h;revert h;refine AD (fun _=>⟨yO 0 JAA.toD a0::X::X::yi v2::dd 57 ([]),yR 191 2 JAA.toD a0::nn 61 ([])⟩) ?_ ?_
  ·intro k6 h;(conv=>whnf);refine .inl (dO ?_);obtain⟨v7,g8,h⟩:=AB h;refine⟨rfl,AL (f:=JAA.toD) g8,?_⟩;refine⟨rfl,JAA.toD v7,(AM (f:=JAA.toD) g8),?_⟩;refine⟨_,rfl,?_⟩;obtain⟨v9,g10,h⟩:=AB h;refine⟨rfl,AL (f:=JAA.toD) g10,?_⟩;refine⟨rfl,JAA.toD v9,(AM (f:=JAA.toD) g10),?_⟩;(conv=>whnf);refine cO ?_;(conv=>whnf);refine .go ?_;refine sJ h (fun h=>?_) fun h=>AA wk h;(conv=>whnf);refine .inr (.inl ?_);obtain⟨_,g11,h⟩:=AB h;have g56c:=EJ g11;refine⟨Iw (f:=JAA.toD) g11,rfl,(Int.toNat v2),(Int.toNat (a0.length:Int) - Int.toNat v2),rfl,(by rw[X10]),?_⟩;revert h;refine AD (fun (v12,v13)=>⟨yO 0 JAA.toD v13::X::X::yi v12::dd 57 ([]),yR 191 2 JAA.toD v13::nn 61 ([])⟩) ?_ ?_
   ·intro k14 h;revert h;refine Ab (fun (v15,v16,v17)=>⟨yO 0 JAA.toD v17::X::X::yi v15::AV.osl 0 (Int.toNat v2) (Int.toNat (a0.length:Int) - Int.toNat v2) (List.map JAA.toD v17).length::yi v16::dd 55 ([]),yR 191 2 JAA.toD v17::nn 61 ([])⟩) ?_ ?_
    ·exact wk
    rintro next18 ⟨v15,v16,v17⟩ K19 h hK20;refine⟨(Int.toNat (a0.length:Int) - Int.toNat v2),rfl,?_⟩;(conv=>whnf);refine .go ?_;refine sJ h (fun h=>?_) fun h=>AA wk h;(conv=>whnf);refine .go ?_;(conv=>whnf);refine .inl (dO ?_);obtain⟨v21,g22,h⟩:=AB h;refine⟨(by first | rfl | (simp only[X10,X21];omega)|(simp only[cpy,X10,X21,X11,X18,X17,X20];omega)),Io g22,_,rfl,?_⟩;refine⟨rfl,JAA.toD v21,(I0 (f:=JAA.toD) g22),?_⟩;refine⟨_,rfl,?_⟩;obtain⟨v23,g24,h⟩:=AB h;refine⟨(by first | rfl | (simp only[X10,X21];omega)|(simp only[cpy,X10,X21,X11,X18,X17,X20];omega)),Io g24,_,rfl,?_⟩;refine⟨rfl,JAA.toD v23,(I0 (f:=JAA.toD) g24),?_⟩;(conv=>whnf);refine cO ?_;revert h;refine AD (fun (v25,v26)=>⟨yO 0 JAA.toD v26::X::X::yi v25::AV.osl 0 (Int.toNat v2) (Int.toNat (a0.length:Int) - Int.toNat v2) (List.map JAA.toD v26).length::yi v16::dd 55 ([]),yR 191 2 JAA.toD v26::nn 61 ([])⟩) ?_ ?_
    ·intro k27 h;refine sJ h (fun h=>?_) fun h=>AA wk h;obtain⟨v28,g29,h⟩:=AB h;refine⟨(by first | rfl | (simp only[X10,X21];omega)|(simp only[cpy,X10,X21,X11,X18,X17,X20];omega)),Io g29,_,rfl,?_⟩;refine⟨rfl,JAA.toD v28,(I0 (f:=JAA.toD) g29),?_⟩;obtain⟨v30,g31,h⟩:=AB h;refine⟨rfl,AL (f:=JAA.toD) g31,?_⟩;obtain⟨v32,g33,h⟩:=AB h;have g33l:=GX g33;refine⟨rfl,rfl,JAA.toD v30,(AM (f:=JAA.toD) g31),?_⟩;refine⟨_,JW (f:=JAA.toD) g33,?_⟩;refine⟨_,rfl,?_⟩;exact AA wk h
    rintro⟨v25,v26⟩ h;refine⟨_,rfl,?_⟩;exact hK20 _ _ wk h
   rintro⟨v12,v13⟩ h;(conv=>whnf);refine .inr (.inl ?_);obtain⟨_,g34,h⟩:=AB h;have g96c:=EJ g34;refine⟨Iw (f:=JAA.toD) g34,rfl,(Int.toNat v12),(Int.toNat (v13.length:Int) - Int.toNat v12),rfl,(by rw[X10]),?_⟩;refine⟨(by first | rfl | (simp only[X10,X21];omega)|(simp only[cpy,X10,X21,X11,X18,X17,X20];omega)),JAA.toD (⟨0,0⟩:JAA),rfl,List.map JAA.toD (List.take (Int.toNat v12) v13++List.replicate (Int.toNat (v13.length:Int) - Int.toNat v12) (⟨0,0⟩:JAA)++List.drop ((Int.toNat v12) + (Int.toNat (v13.length:Int) - Int.toNat v12)) v13),TQ,?_⟩;(conv=>whnf);refine .inr (.inr ?_);obtain⟨v35,g36,h⟩:=AB h;refine⟨TJ (f:=JAA.toD) g36,(by first | rfl | (simp only[X10];omega)|(simp only[cpy,X10,X21,X11,X18,X17,X20];omega)),_,BI (f:=JAA.toD) g36,?_⟩;(conv=>whnf);refine .inl ?_;(conv=>whnf);refine .inr ?_;cases h;exact⟨rfl,rfl⟩
  rintro _ h;refine⟨_,rfl,?_⟩;exact hK5 _ _ wk h
 rintro _ h;(conv=>whnf);refine .inr ?_;cases h;exact⟨rfl,rfl⟩
theorem IJ {wl:Prop} {a0:Int} {r:Bool} (h:cmp_isNaN_int a0=some r):CallsOK (Wl wl) Tryz.prog 178 [AV.d (D.i a0)] [] (.d (D.b r)) []:=by
 refine oK Tryz.f178 ⟨rfl,?_⟩;unfold cmp_isNaN_int at h;cases h;exact⟨rfl,rfl⟩
theorem A0 {wl:Prop} {a0:Int} {a1:Int} {r:Int} (h:cmp_Compare_int a0 a1=some r):CallsOK (Wl wl) Tryz.prog 146 [AV.d (D.i a0),AV.d (D.i a1)] [] (.d (D.i r)) []:=by
 refine oK Tryz.f146 ⟨rfl,?_⟩;unfold cmp_Compare_int at h;obtain⟨v1,g2,h⟩:=AB h;refine⟨_,_,some [],IJ g2,?_⟩;obtain⟨v3,g4,h⟩:=AB h;refine⟨_,_,some [],IJ g4,?_⟩;(conv=>whnf);refine .go ?_;refine sJ h ?_ ?_<;>intro h
 ·(conv=>whnf);refine .go ?_;refine sJ h ?_ ?_<;>intro h
  ·cases h;exact⟨rfl,rfl⟩
  cases h;exact⟨rfl,rfl⟩
 (conv=>whnf);refine .go ?_;refine sJ h ?_ ?_<;>intro h
 ·cases h;exact⟨rfl,rfl⟩
 (conv=>whnf);refine .go ?_;refine sJ h ?_ ?_<;>intro h
 ·cases h;exact⟨rfl,rfl⟩
 (conv=>whnf);refine .go ?_;refine sJ h ?_ ?_<;>intro h
 ·cases h;exact⟨rfl,rfl⟩
 cases h;exact⟨rfl,rfl⟩
theorem GO {wl:Prop} {a0:List Int} {r:Int} (h:Eh a0=some r):CallsOK (Wl wl) Tryz.prog 266 [AV.d (D.l 1 D.i a0)] [] (.d (D.i r)) []:=by
 refine oK Tryz.f266 ⟨rfl,?_⟩;unfold Eh at h;refine⟨a0.length,X10 _,?_⟩;revert h;refine AD (fun _=>⟨X::X::X::yi 0::dd 14 ([]),nn 18 ([])⟩) ?_ ?_
 ·intro k1 h;revert h;refine AW 6 1 D.i rfl (fun i2 _=>⟨X::X::X::yi 0::X::X::y3 a0::yi (a0.length:Int)::yi (i2:Int)::dd 9 ([]),nn 18 ([])⟩) ?_ ?_ ?_
  ·exact wk
  ·rintro _ K3 h;(conv=>whnf);refine .go ?_;(conv=>whnf);refine A9 CP ?_;exact AA wk h
  rintro next4 i2 x5 _ K3 hii2 hxi2 hwi2 h hK6;(conv=>whnf);refine .go ?_;(conv=>whnf);refine A8 (CC hii2) ?_;(conv=>whnf);refine .go ?_;refine⟨A4 (f:=D.i) hii2,D.i x5,hxi2,rfl,?_⟩;(conv=>whnf);refine .go ?_;refine sJ h ?_ ?_<;>intro h
  ·cases h;exact⟨rfl,rfl⟩
  refine⟨_,hwi2,?_⟩;exact hK6 _ _ wk h
 rintro _ h;cases h;exact⟨rfl,rfl⟩
theorem GF {wl:Prop} {a0:JAA} {a1:JAA} {r:Int} (h:BJ a0 a1=some r):CallsOK (Wl wl) Tryz.prog 265 [AV.d (JAA.toD a0),AV.d (JAA.toD a1)] [] (.d (D.i r)) []:=by
 refine oK Tryz.f265 ⟨rfl,?_⟩;unfold BJ at h;(conv=>whnf);refine .inl (dO ?_);obtain⟨v1,g2,h⟩:=AB h;refine⟨_,_,A0 g2,.inl rfl,?_⟩;obtain⟨v3,g4,h⟩:=AB h;refine⟨_,_,A0 g4,.inl rfl,?_⟩;refine⟨rfl,?_⟩;obtain⟨v5,g6,h⟩:=AB h;refine⟨_,_,GO g6,.inl rfl,?_⟩;(conv=>whnf);refine cO ?_;cases h;exact⟨rfl,rfl⟩
theorem JH {wl:Prop} {a0:List Int} {r:Int} (h:DO a0=some r):CallsOK (Wl wl) Tryz.prog 305 [AV.d (D.l 1 D.i a0)] [] (.d (D.i r)) []:=by
 refine oK Tryz.f305 ⟨rfl,?_⟩;unfold DO at h;refine⟨a0.length,X10 _,?_⟩;(conv=>whnf);refine .go ?_;refine sJ h ?_ ?_<;>intro h
 ·exact nomatch h
 obtain⟨v1,g2,h⟩:=AB h;refine⟨AL (f:=D.i) g2,D.i v1,AM (f:=D.i) g2,rfl,?_⟩;revert h;refine AD (fun v3=>⟨X::X::X::yi v3::dd 21 ([]),nn 25 ([])⟩) ?_ ?_
 ·intro k4 h;revert h;refine Ab (fun (v5,v6)=>⟨y3 a0::X::X::yi v5::yi v6::dd 20 ([]),nn 25 ([])⟩) ?_ ?_
  ·exact wk
  rintro next7 ⟨v5,v6⟩ K8 h hK9;refine⟨a0.length,X10 _,?_⟩;(conv=>whnf);refine .go ?_;refine sJ h (fun h=>?_) fun h=>AA wk h;(conv=>whnf);refine .go ?_;obtain⟨v10,g11,h⟩:=AB h;refine⟨AL (f:=D.i) g11,D.i v10,AM (f:=D.i) g11,rfl,?_⟩;refine⟨_,rfl,?_⟩;refine⟨_,rfl,?_⟩;exact hK9 _ _ wk h
 rintro v3 h;cases h;exact⟨rfl,rfl⟩
theorem JG {wl:Prop} {a0:List Int} {r:Int} (h:DV a0=some r):CallsOK (Wl wl) Tryz.prog 306 [AV.d (D.l 1 D.i a0)] [] (.d (D.i r)) []:=by
 refine oK Tryz.f306 ⟨rfl,?_⟩;unfold DV at h;refine⟨a0.length,X10 _,?_⟩;(conv=>whnf);refine .go ?_;refine sJ h ?_ ?_<;>intro h
 ·exact nomatch h
 obtain⟨v1,g2,h⟩:=AB h;refine⟨AL (f:=D.i) g2,D.i v1,AM (f:=D.i) g2,rfl,?_⟩;revert h;refine AD (fun v3=>⟨X::X::X::yi v3::dd 21 ([]),nn 25 ([])⟩) ?_ ?_
 ·intro k4 h;revert h;refine Ab (fun (v5,v6)=>⟨y3 a0::X::X::yi v5::yi v6::dd 20 ([]),nn 25 ([])⟩) ?_ ?_
  ·exact wk
  rintro next7 ⟨v5,v6⟩ K8 h hK9;refine⟨a0.length,X10 _,?_⟩;(conv=>whnf);refine .go ?_;refine sJ h (fun h=>?_) fun h=>AA wk h;(conv=>whnf);refine .go ?_;obtain⟨v10,g11,h⟩:=AB h;refine⟨AL (f:=D.i) g11,D.i v10,AM (f:=D.i) g11,rfl,?_⟩;refine⟨_,rfl,?_⟩;refine⟨_,rfl,?_⟩;exact hK9 _ _ wk h
 rintro v3 h;cases h;exact⟨rfl,rfl⟩
theorem Gw {wl:Prop} {a0:Int} {a1:List Int} {r:Bool} (h:DK a0 a1=some r):CallsOK (Wl wl) Tryz.prog 292 [AV.d (D.i a0),AV.d (D.l 1 D.i a1)] [] (.d (D.b r)) []:=by
 refine oK Tryz.f292 ⟨rfl,?_⟩;unfold DK at h;revert h;refine AD (fun v1=>⟨dd 4 (yb v1::dd 9 ([])),nn 14 ([])⟩) ?_ ?_
 ·intro k2 h;obtain⟨v3,g4,h⟩:=AB h;refine⟨_,_,some [],JH g4,?_⟩;refine sJ h (fun h=>?_) fun h=>AA wk h;obtain⟨v5,g6,h⟩:=AB h;refine⟨_,_,some [],JG g6,?_⟩;exact AA wk h
 rintro v1 h;cases h;exact⟨rfl,rfl⟩
theorem MS {wl:Prop} {a0:JAA} {r:Bool} (h:Eg a0=some r):CallsOK (Wl wl) Tryz.prog 275 [AV.d (JAA.toD a0)] [] (.d (D.b r)) []:=by
 refine oK Tryz.f275 ⟨rfl,?_⟩;unfold Eg at h;refine⟨rfl,?_⟩;obtain⟨v1,g2,h⟩:=AB h;refine⟨_,_,none,Gw g2,?_⟩;cases h;exact⟨rfl,rfl⟩
theorem JU {wl:Prop} {a0:JAA} {a1:JAA} {r:Int} (h:Do a0 a1=some r):CallsOK (Wl wl) Tryz.prog 276 [AV.d (JAA.toD a0),AV.d (JAA.toD a1)] [] (.d (D.i r)) []:=by
 refine oK Tryz.f276 ⟨rfl,?_⟩;unfold Do at h;(conv=>whnf);refine .inl (dO ?_);obtain⟨v1,g2,h⟩:=AB h;refine⟨_,_,A0 g2,.inl rfl,?_⟩;obtain⟨v3,g4,h⟩:=AB h;refine⟨_,_,A0 g4,.inl rfl,?_⟩;refine⟨rfl,?_⟩;obtain⟨v5,g6,h⟩:=AB h;refine⟨_,_,GO g6,.inl rfl,?_⟩;(conv=>whnf);refine cO ?_;cases h;exact⟨rfl,rfl⟩
theorem Bd {wl:Prop} {a0:List JAA} {r:Bool} (h:AY a0=some r):CallsOK (Wl wl) Tryz.prog 274 [AV.d (D.l 2 JAA.toD a0),AV.fn 275 [],AV.fn 276 []] [] (.d (D.b r)) []:=by
 refine oK Tryz.f274 ⟨rfl,?_⟩;unfold AY at h;refine⟨a0.length,X10 _,?_⟩;revert h;refine AD (fun _=>⟨y4 a0::dd 38 ([]),nn 39 ([])⟩) ?_ ?_
 ·intro k1 h;revert h;refine AW 9 2 JAA.toD rfl (fun i2 _=>⟨y4 a0::AV.fn 275 []::AV.fn 276 []::dd 6 (y4 a0::yi (a0.length:Int)::yi (i2:Int)::dd 27 ([])),nn 39 ([])⟩) ?_ ?_ ?_
  ·exact wk
  ·rintro _ K3 h;(conv=>whnf);refine .go ?_;(conv=>whnf);refine A9 CP ?_;exact AA wk h
  rintro next4 i2 x5 _ K3 hii2 hxi2 hwi2 h hK6;(conv=>whnf);refine .go ?_;(conv=>whnf);refine A8 (CC hii2) ?_;(conv=>whnf);refine .go ?_;refine⟨A4 (f:=JAA.toD) hii2,JAA.toD x5,hxi2,rfl,?_⟩;revert h;refine AD (fun v7=>⟨y4 a0::AV.fn 275 []::AV.fn 276 []::dd 6 (y4 a0::yi (a0.length:Int)::yi (i2:Int)::dd 22 (yb v7::dd 4 ([]))),nn 39 ([])⟩) ?_ ?_
  ·intro k8 h;(conv=>whnf);refine .inl (dO ?_);obtain⟨v9,g10,h⟩:=AB h;refine⟨_,_,MS g10,.inl rfl,?_⟩;refine sJ h ?_ ?_<;>intro h
   ·(conv=>whnf);refine cO ?_;exact AA wk h
   refine sJ h ?_ ?_<;>intro h
   ·refine⟨_,rfl,?_⟩;obtain⟨v11,g12,h⟩:=AB h;refine⟨AL (f:=JAA.toD) g12,JAA.toD v11,AM (f:=JAA.toD) g12,rfl,?_⟩;obtain⟨v13,g14,h⟩:=AB h;refine⟨_,_,JU g14,.inl rfl,?_⟩;(conv=>whnf);refine cO ?_;exact AA wk h
   (conv=>whnf);refine cO ?_;exact AA wk h
  rintro v7 h;(conv=>whnf);refine .go ?_;refine sJ h ?_ ?_<;>intro h
  ·cases h;exact⟨rfl,rfl⟩
  refine⟨_,hwi2,?_⟩;exact hK6 _ _ wk h
 rintro _ h;refine⟨a0.length,X10 _,?_⟩;cases h;exact⟨rfl,rfl⟩
theorem La {wl:Prop} {a0:List JAA} {r:Bool} (h:ES a0=some r):CallsOK (Wl wl) Tryz.prog 267 [AV.d (D.l 2 JAA.toD a0)] [] (.d (D.b r)) []:=by
 refine oK Tryz.f267 ⟨rfl,?_⟩;unfold ES at h;obtain⟨v1,g2,h⟩:=AB h;refine⟨_,_,some [],Bd g2,?_⟩;cases h;exact⟨rfl,rfl⟩
theorem E2 {wl:Prop} {a0:List JAE} {r:(List JAE)} (h:A1 a0=some r):CallsOK (Wl wl) Tryz.prog 278 [AV.own 0 (List.map JAE.toD a0).length] [.row 193 3 (List.map JAE.toD a0) .no] (AV.own 1 (List.map JAE.toD r).length) [.gone,.row 193 3 (List.map JAE.toD r) .no]:=by
 refine oK Tryz.f278 ⟨rfl,?_⟩;unfold A1 at h;refine⟨a0.length,by first | exact X10 _ | rfl | (simp only[X10];omega),?_⟩;(conv=>whnf);refine .go ?_;refine sJ h ?_ ?_<;>intro h
 ·(conv=>whnf);refine .inr ?_;cases h;exact⟨rfl,rfl⟩
 revert h;refine AD (fun _=>⟨yO 0 JAE.toD a0::dd 60 ([]),yR 193 3 JAE.toD a0::nn 61 ([])⟩) ?_ ?_
 ·intro k1 h;revert h;refine Ab (fun v2=>⟨yO 0 JAE.toD a0::X::X::yi v2::dd 57 ([]),yR 193 3 JAE.toD a0::nn 61 ([])⟩) ?_ ?_
  ·exact wk
  rintro next3 v2 K4 h hK5;refine⟨a0.length,by first | exact X10 _ | rfl | (simp only[X10];omega),?_⟩;(conv=>whnf);refine .go ?_;refine sJ h (fun h=>?_) fun h=>AA wk h;revert h;refine AD (fun _=>⟨yO 0 JAE.toD a0::X::X::yi v2::dd 57 ([]),yR 193 3 JAE.toD a0::nn 61 ([])⟩) ?_ ?_
  ·intro k6 h;(conv=>whnf);refine .inl (dO ?_);obtain⟨v7,g8,h⟩:=AB h;refine⟨rfl,AL (f:=JAE.toD) g8,?_⟩;refine⟨rfl,JAE.toD v7,(AM (f:=JAE.toD) g8),?_⟩;refine⟨_,rfl,?_⟩;obtain⟨v9,g10,h⟩:=AB h;refine⟨rfl,AL (f:=JAE.toD) g10,?_⟩;refine⟨rfl,JAE.toD v9,(AM (f:=JAE.toD) g10),?_⟩;(conv=>whnf);refine cO ?_;(conv=>whnf);refine .go ?_;refine sJ h (fun h=>?_) fun h=>AA wk h;(conv=>whnf);refine .inr (.inl ?_);obtain⟨_,g11,h⟩:=AB h;have g56c:=EJ g11;refine⟨Iw (f:=JAE.toD) g11,rfl,(Int.toNat v2),(Int.toNat (a0.length:Int) - Int.toNat v2),rfl,(by rw[X10]),?_⟩;revert h;refine AD (fun (v12,v13)=>⟨yO 0 JAE.toD v13::X::X::yi v12::dd 57 ([]),yR 193 3 JAE.toD v13::nn 61 ([])⟩) ?_ ?_
   ·intro k14 h;revert h;refine Ab (fun (v15,v16,v17)=>⟨yO 0 JAE.toD v17::X::X::yi v15::AV.osl 0 (Int.toNat v2) (Int.toNat (a0.length:Int) - Int.toNat v2) (List.map JAE.toD v17).length::yi v16::dd 55 ([]),yR 193 3 JAE.toD v17::nn 61 ([])⟩) ?_ ?_
    ·exact wk
    rintro next18 ⟨v15,v16,v17⟩ K19 h hK20;refine⟨(Int.toNat (a0.length:Int) - Int.toNat v2),rfl,?_⟩;(conv=>whnf);refine .go ?_;refine sJ h (fun h=>?_) fun h=>AA wk h;(conv=>whnf);refine .go ?_;(conv=>whnf);refine .inl (dO ?_);obtain⟨v21,g22,h⟩:=AB h;refine⟨(by first | rfl | (simp only[X10,X21];omega)|(simp only[cpy,X10,X21,X11,X18,X17,X20];omega)),Io g22,_,rfl,?_⟩;refine⟨rfl,JAE.toD v21,(I0 (f:=JAE.toD) g22),?_⟩;refine⟨_,rfl,?_⟩;obtain⟨v23,g24,h⟩:=AB h;refine⟨(by first | rfl | (simp only[X10,X21];omega)|(simp only[cpy,X10,X21,X11,X18,X17,X20];omega)),Io g24,_,rfl,?_⟩;refine⟨rfl,JAE.toD v23,(I0 (f:=JAE.toD) g24),?_⟩;(conv=>whnf);refine cO ?_;revert h;refine AD (fun (v25,v26)=>⟨yO 0 JAE.toD v26::X::X::yi v25::AV.osl 0 (Int.toNat v2) (Int.toNat (a0.length:Int) - Int.toNat v2) (List.map JAE.toD v26).length::yi v16::dd 55 ([]),yR 193 3 JAE.toD v26::nn 61 ([])⟩) ?_ ?_
    ·intro k27 h;refine sJ h (fun h=>?_) fun h=>AA wk h;obtain⟨v28,g29,h⟩:=AB h;refine⟨(by first | rfl | (simp only[X10,X21];omega)|(simp only[cpy,X10,X21,X11,X18,X17,X20];omega)),Io g29,_,rfl,?_⟩;refine⟨rfl,JAE.toD v28,(I0 (f:=JAE.toD) g29),?_⟩;obtain⟨v30,g31,h⟩:=AB h;refine⟨rfl,AL (f:=JAE.toD) g31,?_⟩;obtain⟨v32,g33,h⟩:=AB h;have g33l:=GX g33;refine⟨rfl,rfl,JAE.toD v30,(AM (f:=JAE.toD) g31),?_⟩;refine⟨_,JW (f:=JAE.toD) g33,?_⟩;refine⟨_,rfl,?_⟩;exact AA wk h
    rintro⟨v25,v26⟩ h;refine⟨_,rfl,?_⟩;exact hK20 _ _ wk h
   rintro⟨v12,v13⟩ h;(conv=>whnf);refine .inr (.inl ?_);obtain⟨_,g34,h⟩:=AB h;have g96c:=EJ g34;refine⟨Iw (f:=JAE.toD) g34,rfl,(Int.toNat v12),(Int.toNat (v13.length:Int) - Int.toNat v12),rfl,(by rw[X10]),?_⟩;refine⟨(by first | rfl | (simp only[X10,X21];omega)|(simp only[cpy,X10,X21,X11,X18,X17,X20];omega)),JAE.toD (⟨0,0,0⟩:JAE),rfl,List.map JAE.toD (List.take (Int.toNat v12) v13++List.replicate (Int.toNat (v13.length:Int) - Int.toNat v12) (⟨0,0,0⟩:JAE)++List.drop ((Int.toNat v12) + (Int.toNat (v13.length:Int) - Int.toNat v12)) v13),TQ,?_⟩;(conv=>whnf);refine .inr (.inr ?_);obtain⟨v35,g36,h⟩:=AB h;refine⟨TJ (f:=JAE.toD) g36,(by first | rfl | (simp only[X10];omega)|(simp only[cpy,X10,X21,X11,X18,X17,X20];omega)),_,BI (f:=JAE.toD) g36,?_⟩;(conv=>whnf);refine .inl ?_;(conv=>whnf);refine .inr ?_;cases h;exact⟨rfl,rfl⟩
  rintro _ h;refine⟨_,rfl,?_⟩;exact hK5 _ _ wk h
 rintro _ h;(conv=>whnf);refine .inr ?_;cases h;exact⟨rfl,rfl⟩
theorem H6 {wl:Prop} {a0:JAE} {a1:JAE} {r:Int} (h:CL a0 a1=some r):CallsOK (Wl wl) Tryz.prog 269 [AV.d (JAE.toD a0),AV.d (JAE.toD a1)] [] (.d (D.i r)) []:=by
 refine oK Tryz.f269 ⟨rfl,?_⟩;unfold CL at h;(conv=>whnf);refine .inl (dO ?_);obtain⟨v1,g2,h⟩:=AB h;refine⟨_,_,A0 g2,.inl rfl,?_⟩;obtain⟨v3,g4,h⟩:=AB h;refine⟨_,_,A0 g4,.inl rfl,?_⟩;obtain⟨v5,g6,h⟩:=AB h;refine⟨_,_,A0 g6,.inl rfl,?_⟩;refine⟨rfl,?_⟩;obtain⟨v7,g8,h⟩:=AB h;refine⟨_,_,GO g8,.inl rfl,?_⟩;(conv=>whnf);refine cO ?_;cases h;exact⟨rfl,rfl⟩
theorem I5 {wl:Prop} {a0:JAE} {r:Bool} (h:DF a0=some r):CallsOK (Wl wl) Tryz.prog 280 [AV.d (JAE.toD a0)] [] (.d (D.b r)) []:=by
 refine oK Tryz.f280 ⟨rfl,?_⟩;unfold DF at h;refine⟨rfl,?_⟩;obtain⟨v1,g2,h⟩:=AB h;refine⟨_,_,none,Gw g2,?_⟩;cases h;exact⟨rfl,rfl⟩
theorem Hl {wl:Prop} {a0:JAE} {a1:JAE} {r:Int} (h:B7 a0 a1=some r):CallsOK (Wl wl) Tryz.prog 281 [AV.d (JAE.toD a0),AV.d (JAE.toD a1)] [] (.d (D.i r)) []:=by
 refine oK Tryz.f281 ⟨rfl,?_⟩;unfold B7 at h;(conv=>whnf);refine .inl (dO ?_);obtain⟨v1,g2,h⟩:=AB h;refine⟨_,_,A0 g2,.inl rfl,?_⟩;obtain⟨v3,g4,h⟩:=AB h;refine⟨_,_,A0 g4,.inl rfl,?_⟩;obtain⟨v5,g6,h⟩:=AB h;refine⟨_,_,A0 g6,.inl rfl,?_⟩;refine⟨rfl,?_⟩;obtain⟨v7,g8,h⟩:=AB h;refine⟨_,_,GO g8,.inl rfl,?_⟩;(conv=>whnf);refine cO ?_;cases h;exact⟨rfl,rfl⟩
theorem BK {wl:Prop} {a0:List JAE} {r:Bool} (h:AT a0=some r):CallsOK (Wl wl) Tryz.prog 279 [AV.d (D.l 3 JAE.toD a0),AV.fn 280 [],AV.fn 281 []] [] (.d (D.b r)) []:=by
 refine oK Tryz.f279 ⟨rfl,?_⟩;unfold AT at h;refine⟨a0.length,X10 _,?_⟩;revert h;refine AD (fun _=>⟨y5 a0::dd 38 ([]),nn 39 ([])⟩) ?_ ?_
 ·intro k1 h;revert h;refine AW 9 3 JAE.toD rfl (fun i2 _=>⟨y5 a0::AV.fn 280 []::AV.fn 281 []::dd 6 (y5 a0::yi (a0.length:Int)::yi (i2:Int)::dd 27 ([])),nn 39 ([])⟩) ?_ ?_ ?_
  ·exact wk
  ·rintro _ K3 h;(conv=>whnf);refine .go ?_;(conv=>whnf);refine A9 CP ?_;exact AA wk h
  rintro next4 i2 x5 _ K3 hii2 hxi2 hwi2 h hK6;(conv=>whnf);refine .go ?_;(conv=>whnf);refine A8 (CC hii2) ?_;(conv=>whnf);refine .go ?_;refine⟨A4 (f:=JAE.toD) hii2,JAE.toD x5,hxi2,rfl,?_⟩;revert h;refine AD (fun v7=>⟨y5 a0::AV.fn 280 []::AV.fn 281 []::dd 6 (y5 a0::yi (a0.length:Int)::yi (i2:Int)::dd 22 (yb v7::dd 4 ([]))),nn 39 ([])⟩) ?_ ?_
  ·intro k8 h;(conv=>whnf);refine .inl (dO ?_);obtain⟨v9,g10,h⟩:=AB h;refine⟨_,_,I5 g10,.inl rfl,?_⟩;refine sJ h ?_ ?_<;>intro h
   ·(conv=>whnf);refine cO ?_;exact AA wk h
   refine sJ h ?_ ?_<;>intro h
   ·refine⟨_,rfl,?_⟩;obtain⟨v11,g12,h⟩:=AB h;refine⟨AL (f:=JAE.toD) g12,JAE.toD v11,AM (f:=JAE.toD) g12,rfl,?_⟩;obtain⟨v13,g14,h⟩:=AB h;refine⟨_,_,Hl g14,.inl rfl,?_⟩;(conv=>whnf);refine cO ?_;exact AA wk h
   (conv=>whnf);refine cO ?_;exact AA wk h
  rintro v7 h;(conv=>whnf);refine .go ?_;refine sJ h ?_ ?_<;>intro h
  ·cases h;exact⟨rfl,rfl⟩
  refine⟨_,hwi2,?_⟩;exact hK6 _ _ wk h
 rintro _ h;refine⟨a0.length,X10 _,?_⟩;cases h;exact⟨rfl,rfl⟩
theorem IM {wl:Prop} {a0:List JAE} {r:Bool} (h:Cj a0=some r):CallsOK (Wl wl) Tryz.prog 270 [AV.d (D.l 3 JAE.toD a0)] [] (.d (D.b r)) []:=by
 refine oK Tryz.f270 ⟨rfl,?_⟩;unfold Cj at h;obtain⟨v1,g2,h⟩:=AB h;refine⟨_,_,some [],BK g2,?_⟩;cases h;exact⟨rfl,rfl⟩
end Go.AX.Q33
end
section
namespace Go.AX.Q33
open Go Go.AX Go.Proofs
set_option maxRecDepth 100000
set_option maxHeartbeats 4000000
set_option linter.unusedVariables false
theorem KW {wl:Prop} {a0:Int} {a1:Int} {a2:Int} {r:Bool} (h:CV a0 a1 a2=some r):CallsOK (Wl wl) Tryz.prog 142 [AV.d (D.i a0),AV.d (D.i a1),AV.d (D.i a2)] [] (.d (D.b r)) []:=by
 refine oK Tryz.f142 ⟨rfl,?_⟩;unfold CV at h;revert h;refine AD (fun v1=>⟨dd 6 (yb v1::dd 8 ([])),nn 15 ([])⟩) ?_ ?_
 ·intro k2 h;exact sJ h (fun h=>AA wk h) fun h=>AA wk h
 rintro v1 h;cases h;exact⟨rfl,rfl⟩
theorem Ho {wl:Prop} {a0:List UInt8} {r:(List UInt8)} (h:B9 a0=some r):CallsOK (Wl wl) Tryz.prog 143 [AV.d (D.l 1 D.u8 a0)] [] (.d (D.l 1 D.u8 r)) []:=by
 refine oK Tryz.f143 ⟨rfl,?_⟩;unfold B9 at h;refine⟨?_,fun hz=>?_⟩
 ·(conv=>whnf);refine .go ?_;obtain⟨v1,g2,h⟩:=AB h;refine⟨rfl,Ae (f:=D.u8) (g:=D.u8) g2,_,Af (f:=D.u8) g2,?_⟩;(conv=>whnf);refine .inl ?_;(conv=>whnf);refine .inl ?_;refine⟨rfl,?_⟩;cases h;exact⟨rfl,rfl⟩
 obtain rfl:a0=[]:=(by simpa using hz);replace h:=ZJ h;(conv=>whnf);refine .go ?_;(conv=>whnf);refine .inl ?_;cases h;exact⟨rfl,rfl⟩
theorem KR {wl:Prop} {a0:JAB} {a1:JAB} {r:Int} (h:DL a0 a1=some r):CallsOK (Wl wl) Tryz.prog 145 [AV.d (JAB.toD a0),AV.d (JAB.toD a1)] [] (.d (D.i r)) []:=by
 refine oK Tryz.f145 ⟨rfl,?_⟩;unfold DL at h;obtain⟨v1,g2,h⟩:=AB h;refine⟨_,_,some [],A0 g2,?_⟩;cases h;exact⟨rfl,rfl⟩
theorem CE {wl:Prop} {a0:List JAB} {r:Int} (h:Aq a0=some r):CallsOK (Wl wl) Tryz.prog 174 [AV.d (D.l 3 JAB.toD a0),AV.fn 139 []] [] (.d (D.i r)) []:=by
 refine oK Tryz.f174 ⟨rfl,?_⟩;unfold Aq at h;refine⟨a0.length,X10 _,?_⟩;revert h;refine AD (fun _=>⟨dd 19 ([]),nn 19 ([])⟩) ?_ ?_
 ·intro k1 h;revert h;refine AW 6 3 JAB.toD rfl (fun i2 _=>⟨y0 a0::AV.fn 139 []::dd 4 (y0 a0::yi (a0.length:Int)::yi (i2:Int)::dd 10 ([])),nn 19 ([])⟩) ?_ ?_ ?_
  ·exact wk
  ·rintro _ K3 h;(conv=>whnf);refine .go ?_;(conv=>whnf);refine A9 CP ?_;exact AA wk h
  rintro next4 i2 x5 _ K3 hii2 hxi2 hwi2 h hK6;(conv=>whnf);refine .go ?_;(conv=>whnf);refine A8 (CC hii2) ?_;(conv=>whnf);refine .go ?_;refine⟨A4 (f:=JAB.toD) hii2,JAB.toD x5,hxi2,rfl,?_⟩;obtain⟨v7,g8,h⟩:=AB h;refine⟨_,_,some [],KP g8,?_⟩;(conv=>whnf);refine .go ?_;refine sJ h ?_ ?_<;>intro h
  ·cases h;exact⟨rfl,rfl⟩
  refine⟨_,hwi2,?_⟩;exact hK6 _ _ wk h
 rintro _ h;cases h;exact⟨rfl,rfl⟩
theorem B6 {wl:Prop} {a0:List JAB} {r:Bool} (h:Ad a0=some r):CallsOK (Wl wl) Tryz.prog 135 [AV.d (D.l 3 JAB.toD a0),AV.fn 139 []] [] (.d (D.b r)) []:=by
 refine oK Tryz.f135 ⟨rfl,?_⟩;unfold Ad at h;obtain⟨v1,g2,h⟩:=AB h;refine⟨_,_,some [],CE g2,?_⟩;cases h;exact⟨rfl,rfl⟩
end Go.AX.Q33
end
section
namespace Go.AX
section
variable {P:Program} {E:Env} {w w':World} {S:Sc} {φ:Nat->Option (Nat×Rp)} {ob:Nat->Option OB}
structure Grown (wl:Prop) (w w':World):Prop where
 hp :∀b,b<w.heap.size->w'.heap[b]?=w.heap[b]?
 sz:w.heap.size<=w'.heap.size
 os:w'.os=w.os
 out:w'.output=w.output
 tape:w'.tape=w.tape
 dr:wl\/w.drawn<=w'.drawn
theorem Grown.refl (wl:Prop) (w:World):Grown wl w w:=⟨fun _ _=>rfl,Nat.le_refl _,rfl,rfl,rfl,.inr (Nat.le_refl _)⟩
theorem Grown.trans {wl:Prop} {a b c:World} (h:Grown wl a b) (k:Grown wl b c):Grown wl a c:=
 ⟨fun n hn=>(k.hp n (Nat.lt_of_lt_of_le hn h.sz)).trans (h.hp n hn),Nat.le_trans h.sz k.sz,k.os.trans h.os,k.out.trans h.out,k.tape.trans h.tape,h.dr.elim .inl fun x=>k.dr.imp_right fun y=>Nat.le_trans x y⟩
theorem Grown.alloc {wl:Prop} (w:World) (o:Obj):Grown wl w (w.alloc o):=⟨fun b hb=>F5 w o hb,by simp,rfl,rfl,rfl,.inr (Nat.le_refl _)⟩
theorem Grown.drewN {wl:Prop} (w:World) (n:Nat):Grown wl w (w.drewN n):=⟨fun _ _=>rfl,Nat.le_refl _,rfl,rfl,rfl,.inr (Nat.le_add_right _ _)⟩
theorem Mem.grow (m:Mem E w S φ ob) (h:Grown E.wl.wl w w'):Mem E w' S φ ob/\Kept w S φ ob w' S φ ob:=
 m.grown h.hp h.sz ⟨h.os,h.out,h.tape,h.dr⟩
end
def bR (P : Program) (f : FuncId) : Prop := ∃ fn, P.funcs[f]? = some fn ∧ fn.name ≠ "runtime.NumGoroutine" ∧ fn.body.isSome = true
theorem Z4 {P : Program} {f : FuncId} {fn : Func} (h : P.funcs[f]? = some fn) (hn : (fn.name == "runtime.NumGoroutine") = false) (hb : fn.body.isSome = true) : bR P f := ⟨fn, h, by simpa using hn, hb⟩
end Go.AX
end
section
namespace Go.AX
open Go.Proofs Go.Sort Go.Shelf Go.RowKit
theorem Zi {vals:Array Value} {v u:Value} (hs:vals.size=2) (h:vals.getD 0 undef=v) (h':vals.getD 1 undef=u):vals=#[v,u]:=by
 match vals,hs with
 | ⟨[a,b]⟩,_=>
  simp at h h'
  rw[h,h']
theorem Gp {α:Type} [Inhabited α] (enc:α->List Value) (k:Nat) (w:World) (blk off n:Nat) (d:Array α) (os:Array Obj) (hb:blk<w.heap.size) :
  (∀b,b<w.heap.size->b≠blk->(sortWorldK enc k w blk off n d os).heap[b]?=w.heap[b]?)/\w.heap.size<=(sortWorldK enc k w blk off n d os).heap.size/\
  (∀vs e fr,w.heap[blk]?=some (.cells vs e fr)->(sortWorldK enc k w blk off n d os).heap[blk]?=some (.cells (putCells id off (flatK enc k d) vs) e fr))/\
  (sortWorldK enc k w blk off n d os).os=w.os/\(sortWorldK enc k w blk off n d os).output=w.output/\(sortWorldK enc k w blk off n d os).tape=w.tape/\w.drawn<=(sortWorldK enc k w blk off n d os).drawn:=by
 have hh:(sortWorldK enc k w blk off n d os).heap=(w.heap.modify blk (onCells (putCells id off (flatK enc k d))))++os:=rfl
 refine⟨fun b h1 h2=>?_,?_,fun vs e fr h=>?_,rfl,rfl,rfl,Nat.le_add_right _ _⟩
 ·rw[hh,Array.getElem?_append_left (by simpa using h1),Array.getElem?_modify,if_neg (Ne.symm h2)]
 ·rw[hh];simp
 rw[hh,Array.getElem?_append_left (by simpa using hb),Array.getElem?_modify,if_pos rfl,h]
 rfl
theorem ZU {W w':World} (hp :∀b,b<W.heap.size->w'.heap[b]?=W.heap[b]?) (sz:W.heap.size<=w'.heap.size) (os:w'.os=W.os) (out:w'.output=W.output) (tape:w'.tape=W.tape) (dr:W.drawn<=w'.drawn) :
  ∃q os',w'=grow (W.drewN q) os':=by
 refine⟨w'.drawn - W.drawn,w'.heap.extract W.heap.size w'.heap.size,?_⟩
 obtain⟨h1,t1,d1,o1,u1⟩:=w'
 obtain⟨h2,t2,d2,o2,u2⟩:=W
 simp only at hp sz os out tape dr
 subst os out tape
 have hheap:h1=h2++h1.extract h2.size h1.size:=by
  apply Array.ext_getElem?
  intro i
  by_cases hi:i<h2.size
  ·rw[Array.getElem?_append_left hi];exact hp i hi
  rw[Array.getElem?_append_right (by omega),Array.getElem?_extract]
  by_cases hi2:i<h1.size
  ·rw[if_pos (by omega),show h2.size + (i - h2.size)=i by omega]
  rw[if_neg (by omega),Array.getElem?_eq_none (by omega)]
 have hd:d1=d2 + (d1 - d2):=by omega
 unfold grow World.drewN
 simp only
 congr 1
set_option maxHeartbeats 4000000 in
theorem O1 {wl:WL} {P:Program} {ρ:Ren} {X:Type} {f:X->D} {cmp:X->X->Option Int} {g k e:Nat} (L:SlLaysF0.n6 P ρ) (hf:bR P (ρ.f 6)) (aE :∀w,(isAgg (ρ.t 24)).run P w=.ok true w) (zE :∀w,(Go.sizeOf (ρ.t 24)).run P w=.ok k w)
  (eg :∀args w,(callFunc g args).run P w=.ok (.enter g args) w) (hagg :∀x,(f x).isAgg=true) (hcmp :∀{a b r},cmp a b=some r->CallsOK wl.low P g [.d (f a),.d (f b)] [] (.i r) [])
  {l r:List X} (h:FR cmp l=some r):CallsOK wl P (ρ.f 6) [.own 0 (List.map f l).length,.fn g []] [.row e k (List.map f l) .no] (.tup []) [.row e k (List.map f r) .no]:=by
 refine⟨hf,fun w S φ gb hg vals hs hr hn m=>?_⟩
 have r0:=(hr 0 (by simp)).1
 have r1:=(hr 1 (by simp)).1
 simp only[List.getElem_cons_zero,List.getElem_cons_succ] at r0 r1
 have hv:=Zi hs rfl rfl
 generalize vals.getD 0 undef=v0 at r0 hv
 generalize vals.getD 1 undef=v1 at r1 hv
 cases r1 with | fn _ _ vs1 _ hs1 _ _=>
 obtain rfl:vs1=#[]:=Array.eq_empty_of_size_eq_zero (by simpa using hs1)
 cases r0 with | own _ _ _ kk c a0 hv0 hk0 h1 hb=>
 have hob:ofL [OB.row e k (List.map f l) .no] 0=some (.row e k (List.map f l) .no):=rfl
 obtain⟨_,hown⟩:=h1 _ _ _ _ hob
 have hown:=hown rfl
 have hmem:=m.obj 0 _ hob
 obtain⟨g0,g1,g2,g3⟩:=hmem
 have hol :∀r',ofL [OB.row e k (List.map f r') .no]=upd (ofL [OB.row e k (List.map f l) .no]) 0 (some (.row e k (List.map f r') .no)):=by
  intro r'
  funext q
  match q with
  | 0=>simp[ofL]
  | q + 1=>simp[ofL,upd]
 by_cases hl:0<l.length
 rotate_left
 ·
  have hl0:l=[]:=List.eq_nil_of_length_eq_zero (by omega)
  subst hl0
  obtain⟨hp,_⟩:=LA h
  obtain rfl:r=[]:=hp.eq_nil
  obtain⟨p,cap,hvp⟩ :∃p cap,v0=.slice p 0 cap:=by rw[hv0,hk0];exact⟨_,_,rfl⟩
  rw[hv,hvp]
  refine (AnyF.slices_SortFunc_none L p cap _ w).mono fun e' w' ⟨he,hw⟩=>⟨_,he,S,φ,hw ▸ m,hw ▸ .refl _ _ _ _,.tup [] #[] (fun _=>undef) rfl (fun i hi=>by simp at hi) (fun i hi=>by simp at hi),fun q hq=>by simp[AV.refs,AV.refs.refsL] at hq⟩
 rcases g3 with ⟨_,hnil⟩|⟨b,cap,vs,f0,f1,f2,f3,f4,f5,f6,f7,f8⟩
 ·simp at hnil
  subst hnil
  simp at hl
 obtain⟨hlen,hget⟩:=Rm h hl
 have hsw:TS cmp l=true:=by
  unfold FR at h
  split at h
  ·assumption
  simp at h
 obtain⟨hpsz,hpperm,_⟩:=NH hsw hl
 have hv0':v0=.slice (some ⟨b,cap.2,none⟩) l.length cap.1:=by
  rcases hown with ⟨hφ0,_⟩|⟨b',cap',hφ0,hvv⟩
  ·rw[f1] at hφ0;simp at hφ0
  rw[f1] at hφ0
  simp only[X24,X26] at hφ0
  obtain⟨rfl,rfl⟩:=hφ0
  rw[hvv];simp
 have hbl:=(m.ow 0 b cap (by simp[ofL]) f1).1
 let ix:Nat->Nat:=fun i=>min i (l.length - 1)
 have hix :∀i,ix i<l.length:=fun i=>by simp only[ix];omega
 let enc:Nat->List Value:=fun i=>(List.range k).map fun j=>f0 (ix i) j
 have hencl :∀x,(enc x).length=k:=fun x=>by simp[enc]
 have helem :∀i (hi:i<l.length),(f l[i]).cells.length=k:=fun i hi=>by have:=g1 i (by simpa using hi);simpa using this
 have hrep :∀i (hi:i<l.length) j (hj:j<k),∃hj':j<(f l[i]).cells.length,RepD S w ((f l[i]).cells[j]'hj') (f0 i j)/\((f l[i]).cells[j]'hj').isAgg=false:=by
  intro i hi j hj
  have hj':j<(f l[i]).cells.length:=by rw[helem i hi];exact hj
  refine⟨hj',?_,?_⟩
  ·have:=f7 i (by simpa using hi) j (by simpa using hj');simpa using this
  have:=g2 i (by simpa using hi) j (by simpa using hj');simpa using this
 have hone :∀x,∀v ∈ enc x,v.oneCell'=true:=by
  intro x v hv
  obtain⟨j,hj,rfl⟩:=List.mem_map.1 hv
  obtain⟨hj',h2,h3⟩:=hrep (ix x) (hix x) j (by simpa using hj)
  exact h2.one h3
 have hflat :∀(d:Array Nat) t,t<d.size * k->(flatK enc k d)[t]! = f0 (ix d[t / k]!) (t % k):=by
  intro d t ht
  have hk0:0<k:=g0
  rw[get_flatK _ _ _ _ ht]
  have:=Nat.mod_lt t hk0
  simp[enc,this]
 have hH:HoldsK enc k w b cap.2 (Array.range l.length):=by
  intro t ht
  have ht':t<l.length * k:=by simpa using ht
  have hk0:0<k:=g0
  have hq:t / k<l.length:=Nat.div_lt_of_lt_mul (by rwa [Nat.mul_comm])
  rw[hflat _ t (by simpa using ht')]
  have h1:(Array.range l.length)[t / k]! = t / k:=by simp[hq]
  have h2:ix (t / k)=t / k:=by simp only[ix];omega
  have h3:=f6 (t / k) (t % k) (by simpa using hq) (Nat.mod_lt t hk0)
  have h4:t / k * k + t % k=t:=by rw[Nat.mul_comm];exact Nat.div_add_mod t k
  rw[h4] at h3
  rw[h1,h2]
  refine⟨?_,?_⟩
  ·simp only[World.cell?,f2,id]
   exact h3
  simp[World.frozen?,f2]
 have hkeep :∀(n:Nat) (d:Array Nat) (os:Array Obj),Ls S w S (sortWorldK enc k w b cap.2 n d os):=by
  intro n d os b' o hS
  obtain⟨h1,_⟩:=Gp enc k w b cap.2 n d os hbl
  have hne:b'≠b:=fun he=>f8.1 o (by simp) (he ▸ hS)
  exact⟨hS,C3 (h1 b' (m.bS b' o hS) hne) o⟩
 have hrepE :∀{W:World},Ls S w S W->∀i (hi:i<l.length),RepD S W (f l[i]) (.agg ((List.range k).map fun j=>f0 i j).toArray):=by
  intro W hK i hi
  have ha:=hagg l[i]
  cases hfl:f l[i] with
  | agg cs=>
   have hcs:cs.length=k:=by have:=helem i hi;rw[hfl] at this;exact this
   refine .agg cs _ (fun j=>f0 i j) (by simp[hcs]) (fun j hj=>by simp[hcs ▸ hj]) (fun j hj=>?_) fun j hj=>?_
   ·obtain⟨hj',_,h3⟩:=hrep i hi j (hcs ▸ hj)
    simp only[hfl,D.cells] at h3
    exact h3
   obtain⟨hj',h2,_⟩:=hrep i hi j (hcs ▸ hj)
   simp only[hfl,D.cells] at h2
   exact h2.mono hK
  | val v=>rw[hfl] at ha;simp[D.isAgg] at ha
  | nil sz=>rw[hfl] at ha;simp[D.isAgg] at ha
  | lst sz es=>rw[hfl] at ha;simp[D.isAgg] at ha
 have hfull :∀x,∃(hi:ix x<l.length),enc x=(List.range k).map fun j=>f0 (ix x) j:=fun x=>⟨hix x,rfl⟩
 have hlays:CmpLays P g #[] enc k (cfI cmp l) b cap.2 (Array.range l.length).size w:=by
  intro q os dk hdk x y
  obtain⟨w1,w2,w3,w4,w5,w6,w7⟩:=Gp enc k w b cap.2 q dk os hbl
  have hK:=hkeep q dk os
  generalize hW:sortWorldK enc k w b cap.2 q dk os=W at *
  have hx:=hix x
  have hy:=hix y
  obtain⟨c1,_⟩:=Nv hsw
  obtain⟨rr,hrr⟩:=c1 l[ix x] (List.getElem_mem hx) l[ix y] (List.getElem_mem hy)
  have hcf:cfI cmp l x y=rr:=by
   have e1:ixL l x=some l[ix x]:=X15 hx
   have e2:ixL l y=some l[ix y]:=X15 hy
   unfold cfI
   rw[e1,e2]
   simp[hrr]
  have hn0 :∀r,ofL [] r=none:=fun r=>by simp[ofL]
  have hgW:GlobOK wl.low gb (IY (fun _:Nat=>(none:Option (Nat×Rp))) ([]:List OB).length) S W:=by
   have e :∀b',gb b'->W.heap[b']?=w.heap[b']?:=fun b' hb'=>w1 b' (hg.lt b' hb') fun he=>hg.pb b' hb' ⟨0,cap,by simp,he ▸ f1⟩
   refine⟨wl.ext _ _ _ e hg.gf,fun b' hb'=>Nat.lt_of_lt_of_le (hg.lt b' hb') w2,?_,fun b' o hb' hc=>hg.st b' o hb' ?_⟩
   ·rintro b' hb' ⟨r,c,h1,_⟩
    simp at h1
   rw[<- C3 (e b' hb') o]
   exact hc
  refine ((hcmp hrr).2 W S (fun _=>none) gb hgW (#[.agg (enc x).toArray,.agg (enc y).toArray]++#[]) (by simp) (fun i hi=>?_) (fun _ _=>rfl) ⟨fun r o ho=>by rw[hn0] at ho;simp at ho,fun r _ _ _ _ hr=>absurd (hn0 r) hr,fun r o ho=>by rw[hn0] at ho;simp at ho,fun _ _ h=>h,fun _ _ _=>rfl,fun b' o hS=>Nat.lt_of_lt_of_le (m.bS b' o hS) w2,fun _ _ h _ _=>h,fun _ _ _=>rfl,Nat.le_refl _,fun r _ _ hr=>absurd (hn0 r) hr,⟨rfl,rfl,rfl,.inr (Nat.le_refl _)⟩⟩).mono fun e' w' he=>?_
  ·refine⟨?_,?_⟩
   ·match i,hi with
    | 0,_=>exact .d _ _ (hrepE hK (ix x) hx)
    | 1,_=>exact .d _ _ (hrepE hK (ix y) hy)
   match i,hi with
   | 0,_=>exact A6 _ _
   | 1,_=>exact A6 _ _
  obtain⟨v,rfl,S',φ',mm,_,hvv,_⟩:=he
  refine⟨by rw[hvv.int,hcf],?_⟩
  have hpb :∀b',¬ IY (fun _:Nat=>(none:Option (Nat×Rp))) ([]:List OB).length b':=by rintro b' ⟨r,c,h1,_⟩;simp at h1
  refine ZU (fun b' hb'=>mm.fr b' hb' (hpb b')) mm.sz mm.os.1 mm.os.2.1 mm.os.2.2.1 ?_
  rcases mm.os.2.2.2 with h | h
  ·exact h.elim
  exact h
 have hc:=AnyQ.slices_SortFunc_eq L k aE zE enc hencl hone (cfI cmp l) (Wj hsw hl) g #[] b cap.2 cap.1 (Array.range l.length) w eg hlays hH hbl (by
  have:=(Nv hsw).2.2.2.2
  simp;omega)
 rw[hv,hv0']
 have hsz0:(Array.range l.length).size=l.length:=by simp
 rw[hsz0] at hc
 refine hc.mono fun e' w' ⟨he,n,os,hw⟩=>?_
 have hd:pdq (ltOf (cfI cmp l)) (Array.range l.length) 0 l.length (Lib.bitLen l.length) true true=F8 cmp l:=rfl
 rw[hd] at hw
 obtain⟨w1,w2,w3,w4,w5,w6,w7⟩:=Gp enc k w b cap.2 n (F8 cmp l) os hbl
 rw[<- hw] at w1 w2 w3 w4 w5 w6 w7
 have hcur:=w3 _ _ _ f2
 have hr' :∀i (hi:i<r.length),∃(hp:(F8 cmp l)[i]!<l.length),r[i]=l[(F8 cmp l)[i]!]:=by
  intro i hi
  obtain⟨p1,p2⟩:=hget i (by omega)
  rw[X15 hi,X15 p1] at p2
  exact⟨p1,X25 p2⟩
 obtain⟨m2,k2⟩:=m.rowSet (es':=List.map f r) (cur':=putCells id cap.2 (flatK enc k (F8 cmp l)) vs) (w':=w') hob f1 f2 (by simp[hlen])
  (fun i hi=>by
   have hi':i<r.length:=by simpa using hi
   obtain⟨hp,he⟩:=hr' i hi'
   simp only[List.getElem_map,he]
   exact helem _ hp)
  (fun i hi j hj=>by
   have hi':i<r.length:=by simpa using hi
   obtain⟨hp,he⟩:=hr' i hi'
   simp only[List.getElem_map,he] at hj ⊢
   obtain⟨hj',_,h3⟩:=hrep _ hp j (by rw[helem _ hp] at hj;exact hj)
   exact h3)
  hcur (by simp[putCells]) (fun b' h1 h2=>w1 b' h1 h2) w2 ⟨w4,w5,w6,w7⟩ (fun i j=>f0 (F8 cmp l)[i]! j)
  (fun i j hi hj=>by
   have hi':i<r.length:=by simpa using hi
   obtain⟨hp,he⟩:=hr' i hi'
   have hil:i<l.length:=by omega
   have hik:i * k + j<l.length * k:=by
    have:=X31 k (show i + 1<=l.length from hil)
    rw[X32,Nat.one_mul] at this
    omega
   have hbig:cap.2 + (i * k + j)<vs.size:=by
    have h3:l.length<=cap.1:=by simpa using f3
    have:=X31 k h3
    omega
   have e1:(i * k + j) / k=i:=by rw[Nat.mul_comm,Nat.mul_add_div g0,Nat.div_eq_of_lt hj,Nat.add_zero]
   have e2:(i * k + j) % k=j:=by rw[Nat.mul_comm,Nat.mul_add_mod,Nat.mod_eq_of_lt hj]
   have hfl:=hflat (F8 cmp l) (i * k + j) (by rw[hpsz];exact hik)
   rw[e1,e2] at hfl
   have hixx:ix (F8 cmp l)[i]! = (F8 cmp l)[i]!:=by simp only[ix];omega
   rw[hixx] at hfl
   simp only[putCells,Array.getElem?_mapIdx,Array.getElem?_eq_getElem hbig,Option.map_some]
   rw[if_pos ⟨by omega,by rw[size_flatK,hpsz];omega⟩,show cap.2 + (i * k + j) - cap.2=i * k + j by omega,hfl]
   rfl)
  (fun i hi j hj=>by
   have hi':i<r.length:=by simpa using hi
   obtain⟨hp,he⟩:=hr' i hi'
   simp only[List.getElem_map,he] at hj ⊢
   obtain⟨hj',h2,_⟩:=hrep _ hp j (by rw[helem _ hp] at hj;exact hj)
   exact h2)
 rw[<- hol r] at m2 k2
 exact⟨_,he,S,φ,m2,k2,.tup [] #[] (fun _=>undef) rfl (fun i hi=>by simp at hi) (fun i hi=>by simp at hi),fun q hq=>by simp[AV.refs,AV.refs.refsL] at hq⟩
end Go.AX
end
section
namespace Go.AX
open Go.Proofs Go.Sort Go.Shelf Go.RowKit
theorem VJ {α:Type} [Inhabited α] (enc:α->Value) (w:World) (blk off n:Nat) (d:Array α) (os:Array Obj) (hb:blk<w.heap.size) :
  (∀b,b<w.heap.size->b≠blk->(grow (putRow enc (Sort.ahead w n) blk off d) os).heap[b]?=w.heap[b]?)/\w.heap.size<=(grow (putRow enc (Sort.ahead w n) blk off d) os).heap.size/\
  (∀vs e fr,w.heap[blk]?=some (.cells vs e fr)->(grow (putRow enc (Sort.ahead w n) blk off d) os).heap[blk]?=some (.cells (putCells enc off d vs) e fr))/\
  (grow (putRow enc (Sort.ahead w n) blk off d) os).os=w.os/\(grow (putRow enc (Sort.ahead w n) blk off d) os).output=w.output/\(grow (putRow enc (Sort.ahead w n) blk off d) os).tape=w.tape/\w.drawn<=(grow (putRow enc (Sort.ahead w n) blk off d) os).drawn:=by
 have hh:(grow (putRow enc (Sort.ahead w n) blk off d) os).heap=(w.heap.modify blk (onCells (putCells enc off d)))++os:=rfl
 refine⟨fun b h1 h2=>?_,?_,fun vs e fr h=>?_,rfl,rfl,rfl,Nat.le_add_right _ _⟩
 ·rw[hh,Array.getElem?_append_left (by simpa using h1),Array.getElem?_modify,if_neg (Ne.symm h2)]
 ·rw[hh];simp
 rw[hh,Array.getElem?_append_left (by simpa using hb),Array.getElem?_modify,if_pos rfl,h]
 rfl
theorem ZC {wl:WL} {P:Program} {ρ:Ren} {e:Nat} (L:SlLaysM.n5 P ρ) (hf:bR P (ρ.f 5)) {l r:List Int} (h:Kr l=some r) :
  CallsOK wl P (ρ.f 5) [.own 0 (List.map D.i l).length] [.row e 1 (List.map D.i l) .no] (.tup []) [.row e 1 (List.map D.i r) .no]:=by
 unfold Kr at h
 split at h
 rotate_left
 ·simp at h
 rename_i hsz
 obtain rfl:=X25 h
 refine⟨hf,fun w S φ gb hg vals hs hr hn m=>?_⟩
 have r0:=(hr 0 (by simp)).1
 simp only[List.getElem_cons_zero] at r0
 generalize hv:vals.getD 0 undef=v0 at r0
 have hv:vals=#[v0]:=by
  match vals,hs with
  | ⟨[a]⟩,_=>simp at hv;rw[hv]
 cases r0 with | own _ _ _ kk c a0 hv0 hk0 h1 hb=>
 have hob:ofL [OB.row e 1 (List.map D.i l) .no] 0=some (.row e 1 (List.map D.i l) .no):=rfl
 obtain⟨_,hown⟩:=h1 _ _ _ _ hob
 have hown:=hown rfl
 obtain⟨g0,g1,g2,g3⟩:=m.obj 0 _ hob
 have hol :∀r',ofL [OB.row e 1 (List.map D.i r') .no]=upd (ofL [OB.row e 1 (List.map D.i l) .no]) 0 (some (.row e 1 (List.map D.i r') .no)):=by
  intro r'
  funext q
  match q with
  | 0=>simp[ofL]
  | q + 1=>simp[ofL,upd]
 have none :∀(p:Option Addr) (cap:Nat),v0=.slice p 0 cap->l=[]->Calls P (ρ.f 5) vals w fun e' w'=>∃v,e'=.returned v/\∃S' φ',Mem ⟨w,S,IY φ ([OB.row e 1 (List.map D.i l) .no]).length,wl,gb,hg⟩ w' S' φ' (ofL [OB.row e 1 (List.map D.i (l.mergeSort fun x y=>decide (x<=y))) .no])/\
   Kept w S φ (ofL [OB.row e 1 (List.map D.i l) .no]) w' S' φ' (ofL [OB.row e 1 (List.map D.i (l.mergeSort fun x y=>decide (x<=y))) .no])/\RepA S' w' φ' (ofL [OB.row e 1 (List.map D.i (l.mergeSort fun x y=>decide (x<=y))) .no]) (.tup []) v/\Closed (ofL [OB.row e 1 (List.map D.i (l.mergeSort fun x y=>decide (x<=y))) .no]) (.tup []):=by
  intro p cap hp hl
  subst hl
  rw[hv,hp]
  refine (AnyM.slices_Sort_int_none L p cap w).mono fun e' w' ⟨he,hw⟩=>?_
  subst hw
  refine⟨_,he,S,φ,by simpa using m,by simpa using .refl _ _ _ _,.tup [] #[] (fun _=>undef) rfl (fun i hi=>by simp at hi) (fun i hi=>by simp at hi),fun q hq=>by simp[AV.refs,AV.refs.refsL] at hq⟩
 rcases hown with ⟨a1,a2,a3,a4⟩|⟨b,cap,a1,a4⟩
 ·exact none _ _ a4 (List.eq_nil_of_length_eq_zero (by simpa using a2))
 rcases g3 with ⟨f1,_⟩|⟨b',cap',vs,f0,f1,f2,f3,f4,f5,f6,f7,f8⟩
 ·rw[a1] at f1;simp at f1
 rw[a1] at f1
 simp only[X24,X26] at f1
 obtain⟨rfl,rfl⟩:=f1
 have hbl:b<w.heap.size:=(m.ow 0 b cap (by simp[ofL]) a1).1
 have hcell :∀i (hi:i<l.length),f0 i 0=.int .i64 l[i]:=by
  intro i hi
  have:=f7 i (by simpa using hi) 0 (by simp[D.cells])
  simp only[List.getElem_map,D.cells,List.getElem_cons_zero] at this
  revert this
  generalize f0 i 0=u
  intro h
  cases h
  rfl
 have hH:Holds (Value.int .i64) w b cap.2 l.toArray:=by
  intro j hj
  have hj':j<l.length:=by simpa using hj
  have h6:=f6 j 0 (by simpa using hj') (by decide)
  rw[hcell j hj'] at h6
  have hb2:w.cell? ⟨b,cap.2 + j,Option.none⟩=some (.int .i64 l[j]):=by
   have:cellAt w b (cap.2 + j)=some (.int .i64 l[j]):=by rw[BH f2];simpa using h6
   exact this
  refine⟨by simpa[hj'] using hb2,?_⟩
  simp[World.frozen?,f2]
 rw[hv,a4]
 have hc:=AnyM.slices_Sort_int L b cap.2 cap.1 l w hH hbl hsz
 have hlen:(List.map D.i l).length=l.length:=by simp
 rw[hlen]
 refine hc.mono fun e' w' ⟨he,n,os,hw⟩=>?_
 obtain⟨w1,w2,w3,w4,w5,w6,w7⟩:=VJ (Value.int .i64) w b cap.2 n (l.mergeSort fun x y=>decide (x<=y)).toArray os hbl
 rw[<- hw] at w1 w2 w3 w4 w5 w6 w7
 obtain⟨m2,k2⟩:=m.rowSet (es':=List.map D.i (l.mergeSort fun x y=>decide (x<=y))) (w':=w') hob a1 f2 (by simp)
  (fun i hi=>by simp[D.cells]) (fun i hi j hj=>by
   have h0:j=0:=by simp[D.cells] at hj;exact hj
   subst h0
   simp[D.cells,D.isAgg]) (w3 _ _ _ f2) (by simp[putCells]) (fun b' h1 h2=>w1 b' h1 h2) w2 ⟨w4,w5,w6,w7⟩ (fun i _=>.int .i64 ((l.mergeSort fun x y=>decide (x<=y)).getD i 0))
  (fun i j hi hj=>by
   have h0:j=0:=by omega
   subst h0
   have hi':i<l.length:=by simpa using hi
   have hbig:cap.2 + i<vs.size:=by
    have h3:l.length<=cap.1:=by simpa using f3
    omega
   simp only[putCells,Nat.mul_one,Nat.add_zero,Array.getElem?_mapIdx,Array.getElem?_eq_getElem hbig,Option.map_some]
   rw[if_pos ⟨by omega,by simp;omega⟩,show cap.2 + i - cap.2=i by omega]
   have hi2:i<(l.mergeSort fun x y=>decide (x<=y)).length:=by simpa using hi'
   simp[hi2])
  (fun i hi j hj=>by
   have h0:j=0:=by simp[D.cells] at hj;exact hj
   subst h0
   have hi2:i<(l.mergeSort fun x y=>decide (x<=y)).length:=by simpa using hi
   simp only[List.getElem_map,D.cells,List.getElem_cons_zero,List.getD_eq_getElem?_getD,X15 hi2,Option.getD_some]
   exact .val _ rfl)
 rw[<- hol] at m2 k2
 exact⟨_,he,S,φ,m2,k2,.tup [] #[] (fun _=>undef) rfl (fun i hi=>by simp at hi) (fun i hi=>by simp at hi),fun q hq=>by simp[AV.refs,AV.refs.refsL] at hq⟩
end Go.AX
end
section
set_option maxRecDepth 100000
namespace Go.Proofs
open Go.Shelf
def Tryz.l144_ren:Go.Shelf.Ren:=⟨fun | 6=>144 | 15=>177 | 14=>176 | 28=>207 | 29=>208 | 20=>199 | 21=>200 | 22=>201 | 23=>202 | 24=>203 | 25=>204 | 26=>205 | 27=>206 | 46=>222 | 47=>223 | 48=>224 | 49=>225 | 50=>226 | 57=>232 | n=>n,fun | 22=>77 | 24=>144 | 25=>248 | 3=>3 | 39=>171 | 0=>0 | 53=>308 | 55=>69 | 4=>4 | 46=>302 | 45=>301 | 50=>261 | 5=>5 | 9=>9 | 66=>326 | 70=>330 | 76=>336 | 77=>175 | n=>n,fun | n=>n⟩
theorem Tryz.l144:Go.Proofs.SlLaysF0.n6 Tryz.prog Tryz.l144_ren:={
 mixed:=by kernel_rfl
 f6:=⟨Tryz.f144.name,by decide,Tryz.func144.trans (congrArg some (by kernel_rfl))⟩
 f14:=⟨Tryz.f176.name,by decide,Tryz.func176.trans (congrArg some (by kernel_rfl))⟩
 f15:=Tryz.func177.trans (congrArg some (by kernel_rfl))
 f20:=⟨Tryz.f199.name,by decide,Tryz.func199.trans (congrArg some (by kernel_rfl))⟩
 f21:=⟨Tryz.f200.name,by decide,Tryz.func200.trans (congrArg some (by kernel_rfl))⟩
 f22:=⟨Tryz.f201.name,by decide,Tryz.func201.trans (congrArg some (by kernel_rfl))⟩
 f23:=⟨Tryz.f202.name,by decide,Tryz.func202.trans (congrArg some (by kernel_rfl))⟩
 f24:=⟨Tryz.f203.name,by decide,Tryz.func203.trans (congrArg some (by kernel_rfl))⟩
 f25:=⟨Tryz.f204.name,by decide,Tryz.func204.trans (congrArg some (by kernel_rfl))⟩
 f26:=⟨Tryz.f205.name,by decide,Tryz.func205.trans (congrArg some (by kernel_rfl))⟩
 f27:=⟨Tryz.f206.name,by decide,Tryz.func206.trans (congrArg some (by kernel_rfl))⟩
 f28:=Tryz.func207.trans (congrArg some (by kernel_rfl))
 f29:=Tryz.func208.trans (congrArg some (by kernel_rfl))
 f46:=⟨Tryz.f222.name,by decide,Tryz.func222.trans (congrArg some (by kernel_rfl))⟩
 f47:=Tryz.func223.trans (congrArg some (by kernel_rfl))
 f48:=Tryz.func224.trans (congrArg some (by kernel_rfl))
 f49:=⟨Tryz.f225.name,by decide,Tryz.func225.trans (congrArg some (by kernel_rfl))⟩
 f50:=⟨Tryz.f226.name,by decide,Tryz.func226.trans (congrArg some (by kernel_rfl))⟩
 f57:=⟨Tryz.f232.name,by decide,Tryz.func232.trans (congrArg some (by kernel_rfl))⟩
 t0:=Tryz.underlying0
 a0:=Tryz.isAgg0
 z0:=Tryz.sizeOf0
 v0:=Tryz.zeroValue0
 t3:=Tryz.underlying3
 a3:=Tryz.isAgg3
 z3:=Tryz.sizeOf3
 v3:=Tryz.zeroValue3
 t4:=Tryz.underlying4
 a4:=Tryz.isAgg4
 z4:=Tryz.sizeOf4
 v4:=Tryz.zeroValue4
 t5:=Tryz.underlying5
 a5:=Tryz.isAgg5
 z5:=Tryz.sizeOf5
 v5:=Tryz.zeroValue5
 t9:=Tryz.underlying9
 a9:=Tryz.isAgg9
 z9:=Tryz.sizeOf9
 v9:=Tryz.zeroValue9
 t22:=Tryz.underlying77
 a22:=Tryz.isAgg77
 z22:=Tryz.sizeOf77
 v22:=Tryz.zeroValue77
 t25:=Tryz.underlying248
 a25:=Tryz.isAgg248
 z25:=Tryz.sizeOf248
 v25:=Tryz.zeroValue248
 t39:=Tryz.underlying171
 a39:=Tryz.isAgg171
 z39:=Tryz.sizeOf171
 v39:=Tryz.zeroValue171
 t45:=Tryz.underlying301
 a45:=Tryz.isAgg301
 z45:=Tryz.sizeOf301
 v45:=Tryz.zeroValue301
 t46:=Tryz.underlying302
 a46:=Tryz.isAgg302
 z46:=Tryz.sizeOf302
 v46:=Tryz.zeroValue302
 t50:=Tryz.underlying261
 a50:=Tryz.isAgg261
 z50:=Tryz.sizeOf261
 v50:=Tryz.zeroValue261
 t53:=Tryz.underlying308
 a53:=Tryz.isAgg308
 z53:=Tryz.sizeOf308
 v53:=Tryz.zeroValue308
 t55:=Tryz.underlying69
 a55:=Tryz.isAgg69
 z55:=Tryz.sizeOf69
 v55:=Tryz.zeroValue69
 t66:=Tryz.underlying326
 a66:=Tryz.isAgg326
 z66:=Tryz.sizeOf326
 v66:=Tryz.zeroValue326
 t70:=Tryz.underlying330
 a70:=Tryz.isAgg330
 z70:=Tryz.sizeOf330
 v70:=Tryz.zeroValue330
 t76:=Tryz.underlying336
 a76:=Tryz.isAgg336
 z76:=Tryz.sizeOf336
 v76:=Tryz.zeroValue336
 t77:=Tryz.underlying175
 a77:=Tryz.isAgg175
 z77:=Tryz.sizeOf175
 v77:=Tryz.zeroValue175 }
def Tryz.l261_ren:Go.Shelf.Ren:=⟨fun | 5=>261 | 8=>177 | 7=>271 | 19=>207 | 20=>208 | 10=>282 | 11=>283 | 12=>284 | 13=>285 | 14=>286 | 15=>287 | 16=>288 | 17=>289 | 18=>290 | 30=>294 | 31=>223 | 32=>224 | 33=>295 | 34=>296 | 35=>178 | 40=>315 | n=>n,fun | 23=>25 | 25=>3 | 3=>3 | 32=>171 | 22=>25 | 0=>0 | 44=>308 | 46=>69 | 4=>4 | 36=>302 | 35=>301 | 41=>261 | 5=>5 | 9=>9 | 53=>326 | 57=>330 | 63=>336 | 64=>175 | n=>n,fun | n=>n⟩
theorem Tryz.l261:Go.Proofs.SlLaysM.n5 Tryz.prog Tryz.l261_ren:={
 mixed:=by kernel_rfl
 f5:=⟨Tryz.f261.name,by decide,Tryz.func261.trans (congrArg some (by kernel_rfl))⟩
 f7:=⟨Tryz.f271.name,by decide,Tryz.func271.trans (congrArg some (by kernel_rfl))⟩
 f8:=Tryz.func177.trans (congrArg some (by kernel_rfl))
 f10:=⟨Tryz.f282.name,by decide,Tryz.func282.trans (congrArg some (by kernel_rfl))⟩
 f11:=⟨Tryz.f283.name,by decide,Tryz.func283.trans (congrArg some (by kernel_rfl))⟩
 f12:=⟨Tryz.f284.name,by decide,Tryz.func284.trans (congrArg some (by kernel_rfl))⟩
 f13:=⟨Tryz.f285.name,by decide,Tryz.func285.trans (congrArg some (by kernel_rfl))⟩
 f14:=⟨Tryz.f286.name,by decide,Tryz.func286.trans (congrArg some (by kernel_rfl))⟩
 f15:=⟨Tryz.f287.name,by decide,Tryz.func287.trans (congrArg some (by kernel_rfl))⟩
 f16:=⟨Tryz.f288.name,by decide,Tryz.func288.trans (congrArg some (by kernel_rfl))⟩
 f17:=⟨Tryz.f289.name,by decide,Tryz.func289.trans (congrArg some (by kernel_rfl))⟩
 f18:=⟨Tryz.f290.name,by decide,Tryz.func290.trans (congrArg some (by kernel_rfl))⟩
 f19:=Tryz.func207.trans (congrArg some (by kernel_rfl))
 f20:=Tryz.func208.trans (congrArg some (by kernel_rfl))
 f30:=⟨Tryz.f294.name,by decide,Tryz.func294.trans (congrArg some (by kernel_rfl))⟩
 f31:=Tryz.func223.trans (congrArg some (by kernel_rfl))
 f32:=Tryz.func224.trans (congrArg some (by kernel_rfl))
 f33:=⟨Tryz.f295.name,by decide,Tryz.func295.trans (congrArg some (by kernel_rfl))⟩
 f34:=⟨Tryz.f296.name,by decide,Tryz.func296.trans (congrArg some (by kernel_rfl))⟩
 f35:=⟨Tryz.f178.name,by decide,Tryz.func178.trans (congrArg some (by kernel_rfl))⟩
 f40:=⟨Tryz.f315.name,by decide,Tryz.func315.trans (congrArg some (by kernel_rfl))⟩
 t0:=Tryz.underlying0
 a0:=Tryz.isAgg0
 z0:=Tryz.sizeOf0
 v0:=Tryz.zeroValue0
 t3:=Tryz.underlying3
 a3:=Tryz.isAgg3
 z3:=Tryz.sizeOf3
 v3:=Tryz.zeroValue3
 t4:=Tryz.underlying4
 a4:=Tryz.isAgg4
 z4:=Tryz.sizeOf4
 v4:=Tryz.zeroValue4
 t5:=Tryz.underlying5
 a5:=Tryz.isAgg5
 z5:=Tryz.sizeOf5
 v5:=Tryz.zeroValue5
 t9:=Tryz.underlying9
 a9:=Tryz.isAgg9
 z9:=Tryz.sizeOf9
 v9:=Tryz.zeroValue9
 t22:=Tryz.underlying25
 a22:=Tryz.isAgg25
 z22:=Tryz.sizeOf25
 v22:=Tryz.zeroValue25
 t23:=Tryz.underlying25
 a23:=Tryz.isAgg25
 z23:=Tryz.sizeOf25
 v23:=Tryz.zeroValue25
 t25:=Tryz.underlying3
 a25:=Tryz.isAgg3
 z25:=Tryz.sizeOf3
 v25:=Tryz.zeroValue3
 t32:=Tryz.underlying171
 a32:=Tryz.isAgg171
 z32:=Tryz.sizeOf171
 v32:=Tryz.zeroValue171
 t35:=Tryz.underlying301
 a35:=Tryz.isAgg301
 z35:=Tryz.sizeOf301
 v35:=Tryz.zeroValue301
 t36:=Tryz.underlying302
 a36:=Tryz.isAgg302
 z36:=Tryz.sizeOf302
 v36:=Tryz.zeroValue302
 t41:=Tryz.underlying261
 a41:=Tryz.isAgg261
 z41:=Tryz.sizeOf261
 v41:=Tryz.zeroValue261
 t44:=Tryz.underlying308
 a44:=Tryz.isAgg308
 z44:=Tryz.sizeOf308
 v44:=Tryz.zeroValue308
 t46:=Tryz.underlying69
 a46:=Tryz.isAgg69
 z46:=Tryz.sizeOf69
 v46:=Tryz.zeroValue69
 t53:=Tryz.underlying326
 a53:=Tryz.isAgg326
 z53:=Tryz.sizeOf326
 v53:=Tryz.zeroValue326
 t57:=Tryz.underlying330
 a57:=Tryz.isAgg330
 z57:=Tryz.sizeOf330
 v57:=Tryz.zeroValue330
 t63:=Tryz.underlying336
 a63:=Tryz.isAgg336
 z63:=Tryz.sizeOf336
 v63:=Tryz.zeroValue336
 t64:=Tryz.underlying175
 a64:=Tryz.isAgg175
 z64:=Tryz.sizeOf175
 v64:=Tryz.zeroValue175 }
def Tryz.l272_ren:Go.Shelf.Ren:=⟨fun | 6=>272 | 15=>177 | 14=>291 | 28=>207 | 29=>208 | 20=>297 | 21=>298 | 22=>299 | 23=>300 | 24=>301 | 25=>302 | 26=>303 | 27=>304 | 46=>316 | 47=>223 | 48=>224 | 49=>317 | 50=>318 | 57=>322 | n=>n,fun | 22=>75 | 24=>191 | 25=>360 | 3=>3 | 39=>171 | 0=>0 | 53=>308 | 55=>69 | 4=>4 | 46=>302 | 45=>301 | 50=>261 | 5=>5 | 9=>9 | 66=>326 | 70=>330 | 76=>336 | 77=>175 | n=>n,fun | n=>n⟩
theorem Tryz.l272:Go.Proofs.SlLaysF0.n6 Tryz.prog Tryz.l272_ren:={
 mixed:=by kernel_rfl
 f6:=⟨Tryz.f272.name,by decide,Tryz.func272.trans (congrArg some (by kernel_rfl))⟩
 f14:=⟨Tryz.f291.name,by decide,Tryz.func291.trans (congrArg some (by kernel_rfl))⟩
 f15:=Tryz.func177.trans (congrArg some (by kernel_rfl))
 f20:=⟨Tryz.f297.name,by decide,Tryz.func297.trans (congrArg some (by kernel_rfl))⟩
 f21:=⟨Tryz.f298.name,by decide,Tryz.func298.trans (congrArg some (by kernel_rfl))⟩
 f22:=⟨Tryz.f299.name,by decide,Tryz.func299.trans (congrArg some (by kernel_rfl))⟩
 f23:=⟨Tryz.f300.name,by decide,Tryz.func300.trans (congrArg some (by kernel_rfl))⟩
 f24:=⟨Tryz.f301.name,by decide,Tryz.func301.trans (congrArg some (by kernel_rfl))⟩
 f25:=⟨Tryz.f302.name,by decide,Tryz.func302.trans (congrArg some (by kernel_rfl))⟩
 f26:=⟨Tryz.f303.name,by decide,Tryz.func303.trans (congrArg some (by kernel_rfl))⟩
 f27:=⟨Tryz.f304.name,by decide,Tryz.func304.trans (congrArg some (by kernel_rfl))⟩
 f28:=Tryz.func207.trans (congrArg some (by kernel_rfl))
 f29:=Tryz.func208.trans (congrArg some (by kernel_rfl))
 f46:=⟨Tryz.f316.name,by decide,Tryz.func316.trans (congrArg some (by kernel_rfl))⟩
 f47:=Tryz.func223.trans (congrArg some (by kernel_rfl))
 f48:=Tryz.func224.trans (congrArg some (by kernel_rfl))
 f49:=⟨Tryz.f317.name,by decide,Tryz.func317.trans (congrArg some (by kernel_rfl))⟩
 f50:=⟨Tryz.f318.name,by decide,Tryz.func318.trans (congrArg some (by kernel_rfl))⟩
 f57:=⟨Tryz.f322.name,by decide,Tryz.func322.trans (congrArg some (by kernel_rfl))⟩
 t0:=Tryz.underlying0
 a0:=Tryz.isAgg0
 z0:=Tryz.sizeOf0
 v0:=Tryz.zeroValue0
 t3:=Tryz.underlying3
 a3:=Tryz.isAgg3
 z3:=Tryz.sizeOf3
 v3:=Tryz.zeroValue3
 t4:=Tryz.underlying4
 a4:=Tryz.isAgg4
 z4:=Tryz.sizeOf4
 v4:=Tryz.zeroValue4
 t5:=Tryz.underlying5
 a5:=Tryz.isAgg5
 z5:=Tryz.sizeOf5
 v5:=Tryz.zeroValue5
 t9:=Tryz.underlying9
 a9:=Tryz.isAgg9
 z9:=Tryz.sizeOf9
 v9:=Tryz.zeroValue9
 t22:=Tryz.underlying75
 a22:=Tryz.isAgg75
 z22:=Tryz.sizeOf75
 v22:=Tryz.zeroValue75
 t25:=Tryz.underlying360
 a25:=Tryz.isAgg360
 z25:=Tryz.sizeOf360
 v25:=Tryz.zeroValue360
 t39:=Tryz.underlying171
 a39:=Tryz.isAgg171
 z39:=Tryz.sizeOf171
 v39:=Tryz.zeroValue171
 t45:=Tryz.underlying301
 a45:=Tryz.isAgg301
 z45:=Tryz.sizeOf301
 v45:=Tryz.zeroValue301
 t46:=Tryz.underlying302
 a46:=Tryz.isAgg302
 z46:=Tryz.sizeOf302
 v46:=Tryz.zeroValue302
 t50:=Tryz.underlying261
 a50:=Tryz.isAgg261
 z50:=Tryz.sizeOf261
 v50:=Tryz.zeroValue261
 t53:=Tryz.underlying308
 a53:=Tryz.isAgg308
 z53:=Tryz.sizeOf308
 v53:=Tryz.zeroValue308
 t55:=Tryz.underlying69
 a55:=Tryz.isAgg69
 z55:=Tryz.sizeOf69
 v55:=Tryz.zeroValue69
 t66:=Tryz.underlying326
 a66:=Tryz.isAgg326
 z66:=Tryz.sizeOf326
 v66:=Tryz.zeroValue326
 t70:=Tryz.underlying330
 a70:=Tryz.isAgg330
 z70:=Tryz.sizeOf330
 v70:=Tryz.zeroValue330
 t76:=Tryz.underlying336
 a76:=Tryz.isAgg336
 z76:=Tryz.sizeOf336
 v76:=Tryz.zeroValue336
 t77:=Tryz.underlying175
 a77:=Tryz.isAgg175
 z77:=Tryz.sizeOf175
 v77:=Tryz.zeroValue175 }
def Tryz.l277_ren:Go.Shelf.Ren:=⟨fun | 6=>277 | 15=>177 | 14=>293 | 28=>207 | 29=>208 | 20=>307 | 21=>308 | 22=>309 | 23=>310 | 24=>311 | 25=>312 | 26=>313 | 27=>314 | 46=>319 | 47=>223 | 48=>224 | 49=>320 | 50=>321 | 57=>323 | n=>n,fun | 22=>76 | 24=>193 | 25=>363 | 3=>3 | 39=>171 | 0=>0 | 53=>308 | 55=>69 | 4=>4 | 46=>302 | 45=>301 | 50=>261 | 5=>5 | 9=>9 | 66=>326 | 70=>330 | 76=>336 | 77=>175 | n=>n,fun | n=>n⟩
theorem Tryz.l277:Go.Proofs.SlLaysF0.n6 Tryz.prog Tryz.l277_ren:={
 mixed:=by kernel_rfl
 f6:=⟨Tryz.f277.name,by decide,Tryz.func277.trans (congrArg some (by kernel_rfl))⟩
 f14:=⟨Tryz.f293.name,by decide,Tryz.func293.trans (congrArg some (by kernel_rfl))⟩
 f15:=Tryz.func177.trans (congrArg some (by kernel_rfl))
 f20:=⟨Tryz.f307.name,by decide,Tryz.func307.trans (congrArg some (by kernel_rfl))⟩
 f21:=⟨Tryz.f308.name,by decide,Tryz.func308.trans (congrArg some (by kernel_rfl))⟩
 f22:=⟨Tryz.f309.name,by decide,Tryz.func309.trans (congrArg some (by kernel_rfl))⟩
 f23:=⟨Tryz.f310.name,by decide,Tryz.func310.trans (congrArg some (by kernel_rfl))⟩
 f24:=⟨Tryz.f311.name,by decide,Tryz.func311.trans (congrArg some (by kernel_rfl))⟩
 f25:=⟨Tryz.f312.name,by decide,Tryz.func312.trans (congrArg some (by kernel_rfl))⟩
 f26:=⟨Tryz.f313.name,by decide,Tryz.func313.trans (congrArg some (by kernel_rfl))⟩
 f27:=⟨Tryz.f314.name,by decide,Tryz.func314.trans (congrArg some (by kernel_rfl))⟩
 f28:=Tryz.func207.trans (congrArg some (by kernel_rfl))
 f29:=Tryz.func208.trans (congrArg some (by kernel_rfl))
 f46:=⟨Tryz.f319.name,by decide,Tryz.func319.trans (congrArg some (by kernel_rfl))⟩
 f47:=Tryz.func223.trans (congrArg some (by kernel_rfl))
 f48:=Tryz.func224.trans (congrArg some (by kernel_rfl))
 f49:=⟨Tryz.f320.name,by decide,Tryz.func320.trans (congrArg some (by kernel_rfl))⟩
 f50:=⟨Tryz.f321.name,by decide,Tryz.func321.trans (congrArg some (by kernel_rfl))⟩
 f57:=⟨Tryz.f323.name,by decide,Tryz.func323.trans (congrArg some (by kernel_rfl))⟩
 t0:=Tryz.underlying0
 a0:=Tryz.isAgg0
 z0:=Tryz.sizeOf0
 v0:=Tryz.zeroValue0
 t3:=Tryz.underlying3
 a3:=Tryz.isAgg3
 z3:=Tryz.sizeOf3
 v3:=Tryz.zeroValue3
 t4:=Tryz.underlying4
 a4:=Tryz.isAgg4
 z4:=Tryz.sizeOf4
 v4:=Tryz.zeroValue4
 t5:=Tryz.underlying5
 a5:=Tryz.isAgg5
 z5:=Tryz.sizeOf5
 v5:=Tryz.zeroValue5
 t9:=Tryz.underlying9
 a9:=Tryz.isAgg9
 z9:=Tryz.sizeOf9
 v9:=Tryz.zeroValue9
 t22:=Tryz.underlying76
 a22:=Tryz.isAgg76
 z22:=Tryz.sizeOf76
 v22:=Tryz.zeroValue76
 t25:=Tryz.underlying363
 a25:=Tryz.isAgg363
 z25:=Tryz.sizeOf363
 v25:=Tryz.zeroValue363
 t39:=Tryz.underlying171
 a39:=Tryz.isAgg171
 z39:=Tryz.sizeOf171
 v39:=Tryz.zeroValue171
 t45:=Tryz.underlying301
 a45:=Tryz.isAgg301
 z45:=Tryz.sizeOf301
 v45:=Tryz.zeroValue301
 t46:=Tryz.underlying302
 a46:=Tryz.isAgg302
 z46:=Tryz.sizeOf302
 v46:=Tryz.zeroValue302
 t50:=Tryz.underlying261
 a50:=Tryz.isAgg261
 z50:=Tryz.sizeOf261
 v50:=Tryz.zeroValue261
 t53:=Tryz.underlying308
 a53:=Tryz.isAgg308
 z53:=Tryz.sizeOf308
 v53:=Tryz.zeroValue308
 t55:=Tryz.underlying69
 a55:=Tryz.isAgg69
 z55:=Tryz.sizeOf69
 v55:=Tryz.zeroValue69
 t66:=Tryz.underlying326
 a66:=Tryz.isAgg326
 z66:=Tryz.sizeOf326
 v66:=Tryz.zeroValue326
 t70:=Tryz.underlying330
 a70:=Tryz.isAgg330
 z70:=Tryz.sizeOf330
 v70:=Tryz.zeroValue330
 t76:=Tryz.underlying336
 a76:=Tryz.isAgg336
 z76:=Tryz.sizeOf336
 v76:=Tryz.zeroValue336
 t77:=Tryz.underlying175
 a77:=Tryz.isAgg175
 z77:=Tryz.sizeOf175
 v77:=Tryz.zeroValue175 }
end Go.Proofs
namespace Go.Maps
end Go.Maps
namespace Go.AX.Q33
open Go Go.AX Go.Proofs Go.Maps Go.Sort Go.Shelf Go.RowKit
theorem Uc {wl:WL} {X:Type} {f:X->D} {cmp:X->X->Option Int} {g:Nat} (eg :∀args w,(callFunc g args).run Tryz.prog w=.ok (.enter g args) w) (hcmp :∀{a b r},cmp a b=some r->CallsOK wl.low Tryz.prog g [.d (f a),.d (f b)] [] (.d (D.i r)) []) {l r:List X} (h:FR cmp l=some r) (hagg :∀x,(f x).isAgg=true:=by exact fun _=>rfl):CallsOK wl Tryz.prog 144 [.own 0 (List.map f l).length,.fn g []] [.row 144 3 (List.map f l) .no] (.tup []) [.row 144 3 (List.map f r) .no]:=
 O1 Tryz.l144 (Z4 Tryz.func144 (by kernel_rfl) (by kernel_rfl)) Tryz.isAgg144 Tryz.sizeOf144 eg hagg hcmp h
theorem VP {wl:WL} {l r:List Int} (h:Kr l=some r):CallsOK wl Tryz.prog 261 [.own 0 (List.map D.i l).length] [.row 3 1 (List.map D.i l) .no] (.tup []) [.row 3 1 (List.map D.i r) .no]:=
 ZC Tryz.l261 (Z4 Tryz.func261 (by kernel_rfl) (by kernel_rfl)) h
theorem Ui {wl:WL} {X:Type} {f:X->D} {cmp:X->X->Option Int} {g:Nat} (eg :∀args w,(callFunc g args).run Tryz.prog w=.ok (.enter g args) w) (hcmp :∀{a b r},cmp a b=some r->CallsOK wl.low Tryz.prog g [.d (f a),.d (f b)] [] (.d (D.i r)) []) {l r:List X} (h:FR cmp l=some r) (hagg :∀x,(f x).isAgg=true:=by exact fun _=>rfl):CallsOK wl Tryz.prog 272 [.own 0 (List.map f l).length,.fn g []] [.row 191 2 (List.map f l) .no] (.tup []) [.row 191 2 (List.map f r) .no]:=
 O1 Tryz.l272 (Z4 Tryz.func272 (by kernel_rfl) (by kernel_rfl)) Tryz.isAgg191 Tryz.sizeOf191 eg hagg hcmp h
theorem Tu {wl:WL} {X:Type} {f:X->D} {cmp:X->X->Option Int} {g:Nat} (eg :∀args w,(callFunc g args).run Tryz.prog w=.ok (.enter g args) w) (hcmp :∀{a b r},cmp a b=some r->CallsOK wl.low Tryz.prog g [.d (f a),.d (f b)] [] (.d (D.i r)) []) {l r:List X} (h:FR cmp l=some r) (hagg :∀x,(f x).isAgg=true:=by exact fun _=>rfl):CallsOK wl Tryz.prog 277 [.own 0 (List.map f l).length,.fn g []] [.row 193 3 (List.map f l) .no] (.tup []) [.row 193 3 (List.map f r) .no]:=
 O1 Tryz.l277 (Z4 Tryz.func277 (by kernel_rfl) (by kernel_rfl)) Tryz.isAgg193 Tryz.sizeOf193 eg hagg hcmp h
end Go.AX.Q33
end
section
namespace Go.AX.Q33
open Go Go.AX Go.Proofs
set_option maxRecDepth 100000
set_option maxHeartbeats 4000000
set_option linter.unusedVariables false
theorem H4 {wl:Prop} {a0:List JAB} {r:JAF×Int} (h:D9 a0=some r):CallsOK (Wl wl) Tryz.prog 101 [AV.d (D.l 3 JAB.toD a0)] [] (.tup [.d (JAF.toD r.1),.d (D.i r.2)]) []:=by
 refine okx 166 Tryz.f101 (by kernel_rfl) (by kernel_rfl) ⟨rfl,?_⟩;unfold D9 at h;obtain⟨v1,g2,h⟩:=AB h;refine⟨_,_,some [],KL g2,?_⟩;obtain⟨v3,g4,h⟩:=AB h;refine⟨_,_,some [],B6 g4,?_⟩;(conv=>whnf);refine .go ?_;refine sJ h ?_ ?_<;>intro h
 ·cases h;exact⟨rfl,rfl⟩
 revert h;refine AD (fun (v5,v6,v7,v8,v9,v10,v11,v12,v13,v14,v15)=>⟨y0 v1::X::yr 2 0::dd 12 (AV.tup [AV.agg [yi v5,yO 64 JAC.toD v13,yb v6,yu v7,yu v8,yi v9,yi v10,yi v11,yO 65 JAA.toD v14,yO 67 JAE.toD v15,AV.d (D.nil 3)],yb v12]::dd 52 ([])),N::N::yB JAF.zv::nn 61 (yR 189 2 JAC.toD v13::yR 191 2 JAA.toD v14::N::yR 193 3 JAE.toD v15::nn 166 ([]))⟩) ?_ ?_
 ·intro k16 h;(conv=>whnf);refine inl Tryz.f141 68 (by kernel_rfl) (by kernel_rfl) ⟨rfl,?_⟩;revert h;refine AD (fun _=>⟨y0 v1::X::yr 70 0::dd 6 (AV.d (D.agg [D.i (-1),D.nil 2,D.b false,D.u64 (0:UInt64),D.u64 (0:UInt64),D.i (-1),D.i (-1),D.i (-1),D.nil 2,D.nil 3,D.nil 3])::dd 29 ([])),N::N::yB JAF.zv::nn 67 (yB JAF.zv::nn 163 ([]))⟩) ?_ ?_
  ·intro k17 h;(conv=>whnf);refine inl Tryz.f100 107 (by kernel_rfl) (by kernel_rfl) ⟨rfl,?_⟩;exact AA wk h
  rintro _ h;refine⟨v1.length,X10 _,?_⟩;revert h;refine AD (fun (v18,v19,v20,v21,v22,v23,v24,v25,v26,v27)=>⟨X::X::yr 70 0::X::yr 72 0::dd 34 ([]),N::N::yB JAF.zv::nn 67 (yB JAF.zv::N::yB [yi v18,yO 106 JAC.toD v25,yb v19,yu v20,yu v21,yi v22,yi v23,yi v24,yO 105 JAA.toD v26,yO 104 JAE.toD v27,AV.d (D.nil 3)]::nn 31 (yR 193 3 JAE.toD v27::yR 191 2 JAA.toD v26::yR 189 2 JAC.toD v25::nn 127 ([])))⟩) ?_ ?_
  ·intro k28 h;revert h;refine AW 10 3 JAB.toD rfl (fun i29 (v30,v31,v32,v33,v34,v35,v36,v37,v38,v39)=>⟨X::X::yr 70 0::X::yr 72 0::dd 5 (y0 v1::yi (v1.length:Int)::yi (i29:Int)::dd 26 ([])),N::N::yB JAF.zv::nn 67 (yB JAF.zv::N::yB [yi v30,yO 106 JAC.toD v37,yb v31,yu v32,yu v33,yi v34,yi v35,yi v36,yO 105 JAA.toD v38,yO 104 JAE.toD v39,AV.d (D.nil 3)]::nn 31 (yR 193 3 JAE.toD v39::yR 191 2 JAA.toD v38::yR 189 2 JAC.toD v37::nn 127 ([])))⟩) ?_ ?_ ?_
   ·exact wk
   ·rintro⟨v30,v31,v32,v33,v34,v35,v36,v37,v38,v39⟩ K40 h;(conv=>whnf);refine .go ?_;(conv=>whnf);refine A9 CP ?_;exact AA wk h
   rintro next41 i29 x42 ⟨v30,v31,v32,v33,v34,v35,v36,v37,v38,v39⟩ K40 hii29 hxi29 hwi29 h hK43;delta EY at h;(conv=>whnf);refine .go ?_;(conv=>whnf);refine A8 (CC hii29) ?_;revert h;refine AD (fun (v44,v45,v46,v47,v48,v49,v50,v51,v52,v53)=>⟨X::X::yr 70 0::X::yr 72 0::dd 5 (y0 v1::yi (v1.length:Int)::yi (i29:Int)::dd 26 ([])),N::N::yB JAF.zv::nn 67 (yB JAF.zv::N::yB [yi v44,yO 106 JAC.toD v51,yb v45,yu v46,yu v47,yi v48,yi v49,yi v50,yO 105 JAA.toD v52,yO 104 JAE.toD v53,AV.d (D.nil 3)]::nn 31 (yR 193 3 JAE.toD v53::yR 191 2 JAA.toD v52::yR 189 2 JAC.toD v51::nn 127 ([])))⟩) ?_ ?_
   ·intro k54 h;refine⟨A4 (f:=JAB.toD) hii29,JAB.toD x42,hxi29,rfl,?_⟩;(conv=>whnf);by_cases g55:(x42.Type_==1)=true
    ·replace h:=OL g55 h;refine⟨_,(GU g55),_,rfl,_,rfl,?_⟩;revert h;refine AD (fun (v56,v57)=>⟨X::X::yr 70 0::X::yr 72 0::dd 5 (y0 v1::yi (v1.length:Int)::yi (i29:Int)::dd 22 (yb v56::X::X::X::[])),N::N::yB JAF.zv::nn 67 (yB JAF.zv::N::yB [yi v57,yO 106 JAC.toD v37,yb v31,yu v32,yu v33,yi v34,yi v35,yi v36,yO 105 JAA.toD v38,yO 104 JAE.toD v39,AV.d (D.nil 3)]::nn 31 (yR 193 3 JAE.toD v39::yR 191 2 JAA.toD v38::yR 189 2 JAC.toD v37::nn 127 ([])))⟩) ?_ ?_
     ·intro k58 h;obtain⟨v59,g60,h⟩:=AB h;refine⟨_,_,some [],BO g60,?_⟩;refine sJ h (fun h=>AA wk h) fun h=>?_;revert h;refine AD (fun (v61,v62)=>⟨X::X::yr 70 0::X::yr 72 0::dd 5 (y0 v1::yi (v1.length:Int)::yi (i29:Int)::dd 11 (yb true::X::X::X::yb false::X::X::X::yb v61::dd 6 ([]))),N::N::yB JAF.zv::nn 67 (yB JAF.zv::N::yB [yi v62,yO 106 JAC.toD v37,yb v31,yu v32,yu v33,yi v34,yi v35,yi v36,yO 105 JAA.toD v38,yO 104 JAE.toD v39,AV.d (D.nil 3)]::nn 31 (yR 193 3 JAE.toD v39::yR 191 2 JAA.toD v38::yR 189 2 JAC.toD v37::nn 127 ([])))⟩) ?_ ?_
      ·intro k63 h;(conv=>whnf);refine inl Tryz.f250 107 (by kernel_rfl) (by kernel_rfl) ⟨rfl,?_⟩;obtain⟨v64,g65,h⟩:=AB h;refine⟨_,_,some [],CS g65,?_⟩;revert h;refine AD (fun v66=>⟨dd 4 (yb v66::dd 15 ([])),N::N::yB JAF.zv::nn 67 (yB JAF.zv::N::yB [yi v64,yO 106 JAC.toD v37,yb v31,yu v32,yu v33,yi v34,yi v35,yi v36,yO 105 JAA.toD v38,yO 104 JAE.toD v39,AV.d (D.nil 3)]::N::yB (JAB.av x42)::nn 29 (yR 193 3 JAE.toD v39::yR 191 2 JAA.toD v38::yR 189 2 JAC.toD v37::nn 127 ([])))⟩) ?_ ?_
       ·intro k67 h;refine⟨x42.Data.length,X10 _,?_⟩;exact sJ h (fun h=>AA wk h) fun h=>AA wk h
       rintro v66 h;exact AA wk h
      rintro⟨v61,v62⟩ h;exact AA wk h
     rintro⟨v56,v57⟩ h;(conv=>whnf);refine .go ?_;exact sJ h (fun h=>AA wk h) fun h=>AA wk h
    replace h:=OD g55 h;by_cases g68:(x42.Type_==2)=true
    ·replace h:=OL g68 h;refine⟨_,(Ah g55 (GU g68)),_,rfl,_,rfl,?_⟩;revert h;refine AD (fun (v69,v70)=>⟨X::X::yr 70 0::X::yr 72 0::dd 5 (y0 v1::yi (v1.length:Int)::yi (i29:Int)::dd 22 (yb v69::X::X::X::[])),N::N::yB JAF.zv::nn 67 (yB JAF.zv::N::yB [yi v30,yO 106 JAC.toD v70,yb v31,yu v32,yu v33,yi v34,yi v35,yi v36,yO 105 JAA.toD v38,yO 104 JAE.toD v39,AV.d (D.nil 3)]::nn 31 (yR 193 3 JAE.toD v39::yR 191 2 JAA.toD v38::yR 189 2 JAC.toD v70::nn 127 ([])))⟩) ?_ ?_
     ·intro k71 h;obtain⟨v72,g73,h⟩:=AB h;refine⟨_,_,some [],BO g73,?_⟩;refine sJ h (fun h=>AA wk h) fun h=>?_;revert h;refine AD (fun (v74,v75)=>⟨X::X::yr 70 0::X::yr 72 0::dd 5 (y0 v1::yi (v1.length:Int)::yi (i29:Int)::dd 11 (yb true::X::X::X::yb false::X::X::X::yb v74::dd 6 ([]))),N::N::yB JAF.zv::nn 67 (yB JAF.zv::N::yB [yi v30,yO 106 JAC.toD v75,yb v31,yu v32,yu v33,yi v34,yi v35,yi v36,yO 105 JAA.toD v38,yO 104 JAE.toD v39,AV.d (D.nil 3)]::nn 31 (yR 193 3 JAE.toD v39::yR 191 2 JAA.toD v38::yR 189 2 JAC.toD v75::nn 127 ([])))⟩) ?_ ?_
      ·intro k76 h;(conv=>whnf);refine inl Tryz.f251 107 (by kernel_rfl) (by kernel_rfl) ⟨rfl,?_⟩;revert h;refine AD (fun v77=>⟨yr 72 0::dd 126 ([]),N::N::yB JAF.zv::nn 67 (yB JAF.zv::N::yB [yi v30,yO 106 JAC.toD v77,yb v31,yu v32,yu v33,yi v34,yi v35,yi v36,yO 105 JAA.toD v38,yO 104 JAE.toD v39,AV.d (D.nil 3)]::N::yB (JAB.av x42)::nn 29 (yR 193 3 JAE.toD v39::yR 191 2 JAA.toD v38::yR 189 2 JAC.toD v77::nn 127 ([])))⟩) ?_ ?_
       ·intro k78 h;obtain⟨_,g79,h⟩:=AB h;have g79l:(List.map JAC.toD v37).length=0:=(by rw[EJ g79];rfl);revert h;refine Ab (fun (v80,v81,v82,v83)=>⟨yr 72 0::y1 v80::dd 125 ([]),N::N::yB JAF.zv::nn 67 (yB JAF.zv::N::yB [yi v30,yO 106 JAC.toD v81,yb v31,yu v32,yu v33,yi v34,yi v35,yi v36,yO 105 JAA.toD v38,yO 104 JAE.toD v39,AV.d (D.nil 3)]::N::yB (JAB.av x42)::nn 29 (yR 193 3 JAE.toD v39::yR 191 2 JAA.toD v38::some (OB.row 189 2 (List.map JAC.toD v81) (.lk v82 1 232 (List.map D.i v83).length))::nn 125 (some (OB.row 3 1 (List.map D.i v83) .yes)::N::[])))⟩) ?_ ?_
        ·exact wk
        rintro next84 ⟨v80,v81,v82,v83⟩ K85 h hK86;refine⟨v80.length,X10 _,?_⟩;(conv=>whnf);refine .go ?_;refine sJ h (fun h=>?_) fun h=>AA wk h;(conv=>whnf);refine .go ?_;revert h;refine AD (fun v87=>⟨yr 72 0::y1 v80::dd 40 (yb v87::dd 84 ([])),N::N::yB JAF.zv::nn 67 (yB JAF.zv::N::yB [yi v30,yO 106 JAC.toD v81,yb v31,yu v32,yu v33,yi v34,yi v35,yi v36,yO 105 JAA.toD v38,yO 104 JAE.toD v39,AV.d (D.nil 3)]::N::yB (JAB.av x42)::nn 29 (yR 193 3 JAE.toD v39::yR 191 2 JAA.toD v38::some (OB.row 189 2 (List.map JAC.toD v81) (.lk v82 1 232 (List.map D.i v83).length))::nn 125 (some (OB.row 3 1 (List.map D.i v83) .yes)::N::[])))⟩) ?_ ?_
        ·intro k88 h;refine⟨v80.length,X10 _,?_⟩;refine sJ h (fun h=>AA wk h) fun h=>?_;obtain⟨v89,g90,h⟩:=AB h;refine⟨AL (f:=D.u8) g90,D.u8 v89,AM (f:=D.u8) g90,rfl,?_⟩;refine sJ h ?_ ?_<;>intro h
         ·obtain⟨v91,g92,h⟩:=AB h;refine⟨AL (f:=D.u8) g92,D.u8 v91,AM (f:=D.u8) g92,rfl,?_⟩;refine sJ h (fun h=>AA wk h) fun h=>?_;refine⟨v80.length,X10 _,?_⟩;obtain⟨v93,g94,h⟩:=AB h;refine⟨AL (f:=D.u8) g94,D.u8 v93,AM (f:=D.u8) g94,rfl,?_⟩;refine⟨_,A3 v93,?_⟩;refine⟨_,rfl,?_⟩;refine⟨_,rfl,?_⟩;refine sJ h (fun h=>AA wk h) fun h=>?_;obtain⟨v95,g96,h⟩:=AB h;refine⟨AL (f:=D.u8) g96,D.u8 v95,AM (f:=D.u8) g96,rfl,?_⟩;exact AA wk h
         refine⟨v80.length,X10 _,?_⟩;obtain⟨v97,g98,h⟩:=AB h;refine⟨AL (f:=D.u8) g98,D.u8 v97,AM (f:=D.u8) g98,rfl,?_⟩;refine⟨_,A3 v97,?_⟩;refine⟨_,rfl,?_⟩;refine⟨_,rfl,?_⟩;refine sJ h (fun h=>AA wk h) fun h=>?_;obtain⟨v99,g100,h⟩:=AB h;refine⟨AL (f:=D.u8) g100,D.u8 v99,AM (f:=D.u8) g100,rfl,?_⟩;exact AA wk h
        rintro v87 h;(conv=>whnf);refine .go ?_;refine sJ h ?_ ?_<;>intro h
        ·exact AA (.swap 232 103 rfl rfl rfl wk) h
        obtain⟨v101,g102,h⟩:=AB h;refine⟨AL (f:=D.u8) g102,D.u8 v101,AM (f:=D.u8) g102,rfl,?_⟩;refine⟨_,A3 v101,?_⟩;refine⟨_,rfl,?_⟩;refine⟨_,rfl,?_⟩;(conv=>whnf);refine .inl (dO ?_);obtain⟨v103,g104,h⟩:=AB h;refine⟨AL (f:=D.u8) g104,D.u8 v103,AM (f:=D.u8) g104,rfl,?_⟩;obtain⟨v105,g106,h⟩:=AB h;refine⟨BX (f:=D.u8) g106,_,BI (f:=D.u8) g106,?_⟩;obtain⟨v107,g108,h⟩:=AB h;refine⟨_,_,Ej g108,.inr rfl,?_⟩;(conv=>whnf);refine cO ?_;obtain⟨v109,g110,h⟩:=AB h;refine⟨CH (f:=D.u8) g110,_,CJ (f:=D.u8) g110,?_⟩;revert h;refine AD (fun v111=>⟨yr 72 0::y1 v109::dd 4 (yr 113 0::dd 120 ([])),N::N::yB JAF.zv::nn 67 (yB JAF.zv::N::yB [yi v30,yO 106 JAC.toD v81,yb v31,yu v32,yu v33,yi v34,yi v35,yi v36,yO 105 JAA.toD v38,yO 104 JAE.toD v39,AV.d (D.nil 3)]::N::yB (JAB.av x42)::nn 29 (yR 193 3 JAE.toD v39::yR 191 2 JAA.toD v38::some (OB.row 189 2 (List.map JAC.toD v81) (.lk v82 1 232 (List.map D.i v83).length))::nn 6 (yB [yb ((v103.toNat:Int)==1),yO 175 D.i v111]::nn 61 (yR 3 1 D.i v111::nn 56 (some (OB.row 3 1 (List.map D.i v83) .yes)::N::[])))))⟩) ?_ ?_
        ·intro k112 h;refine sJ h ?_ ?_<;>intro h
         ·obtain⟨v113,g114,h⟩:=AB h;have g114l:=XV g114;refine⟨_,_,some [],VP g114,?_⟩;obtain⟨v115,g116,h⟩:=AB h;have g117:(List.map D.i v113).length=(List.map D.i v107).length:=(by first | rfl | (simp only[X10,X21];omega)|(simp only[cpy,X10,X21,X11,X18,X17,X20];omega)|(simp only[X10] at *;omega));refine⟨_,_,some [175],(g117 ▸ Hk g116),?_⟩;exact AA wk h
         exact AA (.swap 163 175 rfl rfl rfl wk) h
        rintro v111 h;refine⟨v81.length,by first | exact X10 _ | rfl | (simp only[X10];omega),?_⟩;refine⟨_,rfl,?_⟩;revert h;refine AD (fun v118=>⟨yr 72 0::y1 v109::dd 4 (yr 113 0::yi (AK ((v81.length:Int) - 1))::dd 85 (yb v118::dd 33 ([]))),N::N::yB JAF.zv::nn 67 (yB JAF.zv::N::yB [yi v30,yO 106 JAC.toD v81,yb v31,yu v32,yu v33,yi v34,yi v35,yi v36,yO 105 JAA.toD v38,yO 104 JAE.toD v39,AV.d (D.nil 3)]::N::yB (JAB.av x42)::nn 29 (yR 193 3 JAE.toD v39::yR 191 2 JAA.toD v38::some (OB.row 189 2 (List.map JAC.toD v81) (.lk v82 1 232 (List.map D.i v83).length))::nn 6 (yB [yb ((v103.toNat:Int)==1),yO 175 D.i v111]::nn 61 (yR 3 1 D.i v111::nn 56 (some (OB.row 3 1 (List.map D.i v83) .yes)::N::[])))))⟩) ?_ ?_
        ·intro k119 h;refine sJ h (fun h=>?_) fun h=>AA wk h;refine sJ h (fun h=>?_) fun h=>AA wk h;obtain⟨v120,g121,h⟩:=AB h;refine⟨rfl,AL (f:=JAC.toD) g121,?_⟩;refine⟨rfl,?_⟩;(conv=>whnf);refine .inl ?_;refine⟨rfl,JAC.toD v120,(AM (f:=JAC.toD) g121),?_⟩;exact AA wk h
        rintro v118 h;revert h;refine AD (fun (v122,v123,v124)=>⟨yr 72 0::y1 v109::dd 125 ([]),N::N::yB JAF.zv::nn 67 (yB JAF.zv::N::yB [yi v30,yO 106 JAC.toD v122,yb v31,yu v32,yu v33,yi v34,yi v35,yi v36,yO 105 JAA.toD v38,yO 104 JAE.toD v39,AV.d (D.nil 3)]::N::yB (JAB.av x42)::nn 29 (yR 193 3 JAE.toD v39::yR 191 2 JAA.toD v38::some (OB.row 189 2 (List.map JAC.toD v122) (.lk v123 1 232 (List.map D.i v124).length))::nn 125 (some (OB.row 3 1 (List.map D.i v124) .yes)::N::[])))⟩) ?_ ?_
        ·intro k125 h;refine sJ h ?_ ?_<;>intro h
         ·(conv=>whnf);refine .inl (dO ?_);obtain⟨v126,g127,h⟩:=AB h;refine⟨rfl,AL (f:=JAC.toD) g127,?_⟩;refine⟨rfl,?_⟩;obtain⟨_,g128,h⟩:=AB h;refine .inr ⟨rfl,EJ g128,rfl,(WO (f:=JAC.toD) g127),by decide,rfl,?_⟩;refine⟨rfl,?_⟩;obtain⟨v129,g130,h⟩:=AB h;refine⟨rfl,Ae (f:=D.i) (g:=D.i) g130,_,Af (f:=D.i) g130,?_⟩;obtain⟨v131,g132,h⟩:=AB h;refine⟨rfl,AL (f:=JAC.toD) g132,?_⟩;refine⟨rfl,?_⟩;obtain⟨v133,g134,h⟩:=AB h;have g134l:=GX g134;refine⟨rfl,?_⟩;refine⟨rfl,rfl,JAC.toD v131,(AM (f:=JAC.toD) g132),?_⟩;refine⟨_,JW (f:=JAC.toD) g134,?_⟩;(conv=>whnf);refine cO ?_;exact AA wk h
         (conv=>whnf);refine .inl (dO ?_);(conv=>whnf);refine .inr (.inr ?_);refine⟨1,175,_,rfl,?_⟩;refine⟨rfl,?_⟩;refine⟨rfl,?_⟩;obtain⟨v135,g136,h⟩:=AB h;refine⟨rfl,Ae (f:=JAC.toD) (g:=JAC.toD) g136,_,Af (f:=JAC.toD) g136,?_⟩;refine⟨rfl,?_⟩;(conv=>whnf);refine cO ?_;exact AA (.swap 175 232 rfl rfl rfl wk) h
        rintro⟨v122,v123,v124⟩ h;exact hK86 _ _ wk h
       rintro v77 h;refine⟨rfl,?_⟩;obtain⟨v137,g138,h⟩:=AB h;refine⟨_,_,none,OZ g138,?_⟩;exact AA wk h
      rintro⟨v74,v75⟩ h;exact AA wk h
     rintro⟨v69,v70⟩ h;(conv=>whnf);refine .go ?_;exact sJ h (fun h=>AA wk h) fun h=>AA wk h
    replace h:=OD g68 h;by_cases g139:(x42.Type_==3)=true
    ·replace h:=OL g139 h;refine⟨_,(Ah g55 (Ah g68 (GU g139))),_,rfl,_,rfl,?_⟩;revert h;refine AD (fun (v140,v141,v142,v143)=>⟨X::X::yr 70 0::X::yr 72 0::dd 5 (y0 v1::yi (v1.length:Int)::yi (i29:Int)::dd 22 (yb v140::X::X::X::[])),N::N::yB JAF.zv::nn 67 (yB JAF.zv::N::yB [yi v30,yO 106 JAC.toD v37,yb v141,yu v142,yu v143,yi v34,yi v35,yi v36,yO 105 JAA.toD v38,yO 104 JAE.toD v39,AV.d (D.nil 3)]::nn 31 (yR 193 3 JAE.toD v39::yR 191 2 JAA.toD v38::yR 189 2 JAC.toD v37::nn 127 ([])))⟩) ?_ ?_
     ·intro k144 h;obtain⟨v145,g146,h⟩:=AB h;refine⟨_,_,some [],BO g146,?_⟩;refine sJ h (fun h=>AA wk h) fun h=>?_;revert h;refine AD (fun (v147,v148,v149)=>⟨X::X::yr 70 0::X::yr 72 0::dd 5 (y0 v1::yi (v1.length:Int)::yi (i29:Int)::dd 11 (yb true::X::X::X::yb false::X::X::X::yb ((x42.Data.length:Int)==4)::dd 6 ([]))),N::N::yB JAF.zv::nn 67 (yB JAF.zv::N::yB [yi v30,yO 106 JAC.toD v37,yb v147,yu v148,yu v149,yi v34,yi v35,yi v36,yO 105 JAA.toD v38,yO 104 JAE.toD v39,AV.d (D.nil 3)]::nn 31 (yR 193 3 JAE.toD v39::yR 191 2 JAA.toD v38::yR 189 2 JAC.toD v37::nn 127 ([])))⟩) ?_ ?_
      ·intro k150 h;(conv=>whnf);refine inl Tryz.f252 107 (by kernel_rfl) (by kernel_rfl) ⟨rfl,?_⟩;obtain⟨⟨v151,v152⟩,g153,h⟩:=AB h;refine⟨_,_,some [],Fp g153,?_⟩;refine⟨x42.Data.length,X10 _,?_⟩;exact AA wk h
      rintro⟨v147,v148,v149⟩ h;exact AA wk h
     rintro⟨v140,v141,v142,v143⟩ h;(conv=>whnf);refine .go ?_;exact sJ h (fun h=>AA wk h) fun h=>AA wk h
    replace h:=OD g139 h;by_cases g154:(x42.Type_==4)=true
    ·replace h:=OL g154 h;refine⟨_,(Ah g55 (Ah g68 (Ah g139 (GU g154)))),_,rfl,_,rfl,?_⟩;revert h;refine AD (fun (v155,v156)=>⟨X::X::yr 70 0::X::yr 72 0::dd 5 (y0 v1::yi (v1.length:Int)::yi (i29:Int)::dd 22 (yb v155::X::X::X::[])),N::N::yB JAF.zv::nn 67 (yB JAF.zv::N::yB [yi v30,yO 106 JAC.toD v37,yb v31,yu v32,yu v33,yi v156,yi v35,yi v36,yO 105 JAA.toD v38,yO 104 JAE.toD v39,AV.d (D.nil 3)]::nn 31 (yR 193 3 JAE.toD v39::yR 191 2 JAA.toD v38::yR 189 2 JAC.toD v37::nn 127 ([])))⟩) ?_ ?_
     ·intro k157 h;obtain⟨v158,g159,h⟩:=AB h;refine⟨_,_,some [],BO g159,?_⟩;refine sJ h (fun h=>AA wk h) fun h=>?_;revert h;refine AD (fun v160=>⟨X::X::yr 70 0::X::yr 72 0::dd 5 (y0 v1::yi (v1.length:Int)::yi (i29:Int)::dd 11 (yb true::X::X::X::yb false::X::X::X::yb ((x42.Data.length:Int)==4)::dd 6 ([]))),N::N::yB JAF.zv::nn 67 (yB JAF.zv::N::yB [yi v30,yO 106 JAC.toD v37,yb v31,yu v32,yu v33,yi v160,yi v35,yi v36,yO 105 JAA.toD v38,yO 104 JAE.toD v39,AV.d (D.nil 3)]::nn 31 (yR 193 3 JAE.toD v39::yR 191 2 JAA.toD v38::yR 189 2 JAC.toD v37::nn 127 ([])))⟩) ?_ ?_
      ·intro k161 h;(conv=>whnf);refine inl Tryz.f253 107 (by kernel_rfl) (by kernel_rfl) ⟨rfl,?_⟩;revert h;refine AD (fun v162=>⟨dd 4 (yb false::dd 4 (yb ((x42.Data.length:Int)==4)::[])),N::N::yB JAF.zv::nn 67 (yB JAF.zv::N::yB [yi v30,yO 106 JAC.toD v37,yb v31,yu v32,yu v33,yi v162,yi v35,yi v36,yO 105 JAA.toD v38,yO 104 JAE.toD v39,AV.d (D.nil 3)]::N::yB (JAB.av x42)::nn 29 (yR 193 3 JAE.toD v39::yR 191 2 JAA.toD v38::yR 189 2 JAC.toD v37::nn 127 ([])))⟩) ?_ ?_
       ·intro k163 h;(conv=>whnf);refine inl Tryz.f254 117 (by kernel_rfl) (by kernel_rfl) ⟨rfl,?_⟩;obtain⟨v164,g165,h⟩:=AB h;refine⟨_,_,some [],CS g165,?_⟩;refine⟨x42.Data.length,X10 _,?_⟩;exact AA wk h
       rintro v162 h;exact AA wk h
      rintro v160 h;exact AA wk h
     rintro⟨v155,v156⟩ h;(conv=>whnf);refine .go ?_;exact sJ h (fun h=>AA wk h) fun h=>AA wk h
    replace h:=OD g154 h;by_cases g166:(x42.Type_==5)=true
    ·replace h:=OL g166 h;refine⟨_,(Ah g55 (Ah g68 (Ah g139 (Ah g154 (GU g166))))),_,rfl,_,rfl,?_⟩;revert h;refine AD (fun (v167,v168)=>⟨X::X::yr 70 0::X::yr 72 0::dd 5 (y0 v1::yi (v1.length:Int)::yi (i29:Int)::dd 22 (yb v167::X::X::X::[])),N::N::yB JAF.zv::nn 67 (yB JAF.zv::N::yB [yi v30,yO 106 JAC.toD v37,yb v31,yu v32,yu v33,yi v34,yi v168,yi v36,yO 105 JAA.toD v38,yO 104 JAE.toD v39,AV.d (D.nil 3)]::nn 31 (yR 193 3 JAE.toD v39::yR 191 2 JAA.toD v38::yR 189 2 JAC.toD v37::nn 127 ([])))⟩) ?_ ?_
     ·intro k169 h;obtain⟨v170,g171,h⟩:=AB h;refine⟨_,_,some [],BO g171,?_⟩;refine sJ h (fun h=>AA wk h) fun h=>?_;revert h;refine AD (fun v172=>⟨X::X::yr 70 0::X::yr 72 0::dd 5 (y0 v1::yi (v1.length:Int)::yi (i29:Int)::dd 11 (yb true::X::X::X::yb false::X::X::X::yb ((x42.Data.length:Int)==4)::dd 6 ([]))),N::N::yB JAF.zv::nn 67 (yB JAF.zv::N::yB [yi v30,yO 106 JAC.toD v37,yb v31,yu v32,yu v33,yi v34,yi v172,yi v36,yO 105 JAA.toD v38,yO 104 JAE.toD v39,AV.d (D.nil 3)]::nn 31 (yR 193 3 JAE.toD v39::yR 191 2 JAA.toD v38::yR 189 2 JAC.toD v37::nn 127 ([])))⟩) ?_ ?_
      ·intro k173 h;(conv=>whnf);refine inl Tryz.f255 107 (by kernel_rfl) (by kernel_rfl) ⟨rfl,?_⟩;revert h;refine AD (fun v174=>⟨dd 4 (yb false::dd 4 (yb ((x42.Data.length:Int)==4)::[])),N::N::yB JAF.zv::nn 67 (yB JAF.zv::N::yB [yi v30,yO 106 JAC.toD v37,yb v31,yu v32,yu v33,yi v34,yi v174,yi v36,yO 105 JAA.toD v38,yO 104 JAE.toD v39,AV.d (D.nil 3)]::N::yB (JAB.av x42)::nn 29 (yR 193 3 JAE.toD v39::yR 191 2 JAA.toD v38::yR 189 2 JAC.toD v37::nn 127 ([])))⟩) ?_ ?_
       ·intro k175 h;(conv=>whnf);refine inl Tryz.f254 117 (by kernel_rfl) (by kernel_rfl) ⟨rfl,?_⟩;obtain⟨v176,g177,h⟩:=AB h;refine⟨_,_,some [],CS g177,?_⟩;refine⟨x42.Data.length,X10 _,?_⟩;exact AA wk h
       rintro v174 h;exact AA wk h
      rintro v172 h;exact AA wk h
     rintro⟨v167,v168⟩ h;(conv=>whnf);refine .go ?_;exact sJ h (fun h=>AA wk h) fun h=>AA wk h
    replace h:=OD g166 h;by_cases g178:(x42.Type_==8)=true
    ·replace h:=OL g178 h;refine⟨_,(Ah g55 (Ah g68 (Ah g139 (Ah g154 (Ah g166 (GU g178)))))),_,rfl,_,rfl,?_⟩;revert h;refine AD (fun (v179,v180)=>⟨X::X::yr 70 0::X::yr 72 0::dd 5 (y0 v1::yi (v1.length:Int)::yi (i29:Int)::dd 22 (yb v179::X::X::X::[])),N::N::yB JAF.zv::nn 67 (yB JAF.zv::N::yB [yi v30,yO 106 JAC.toD v37,yb v31,yu v32,yu v33,yi v34,yi v35,yi v36,yO 105 JAA.toD v180,yO 104 JAE.toD v39,AV.d (D.nil 3)]::nn 31 (yR 193 3 JAE.toD v39::yR 191 2 JAA.toD v180::yR 189 2 JAC.toD v37::nn 127 ([])))⟩) ?_ ?_
     ·intro k181 h;obtain⟨v182,g183,h⟩:=AB h;refine⟨_,_,some [],BO g183,?_⟩;refine sJ h (fun h=>AA wk h) fun h=>?_;revert h;refine AD (fun (v184,v185)=>⟨X::X::yr 70 0::X::yr 72 0::dd 5 (y0 v1::yi (v1.length:Int)::yi (i29:Int)::dd 11 (yb true::X::X::X::yb false::X::X::X::yb v184::dd 6 ([]))),N::N::yB JAF.zv::nn 67 (yB JAF.zv::N::yB [yi v30,yO 106 JAC.toD v37,yb v31,yu v32,yu v33,yi v34,yi v35,yi v36,yO 105 JAA.toD v185,yO 104 JAE.toD v39,AV.d (D.nil 3)]::nn 31 (yR 193 3 JAE.toD v39::yR 191 2 JAA.toD v185::yR 189 2 JAC.toD v37::nn 127 ([])))⟩) ?_ ?_
      ·intro k186 h;(conv=>whnf);refine inl Tryz.f256 107 (by kernel_rfl) (by kernel_rfl) ⟨rfl,?_⟩;obtain⟨v187,g188,h⟩:=AB h;refine⟨_,_,some [117],Ej g188,?_⟩;refine⟨v187.length,by first | exact X10 _ | rfl | (simp only[X10];omega),?_⟩;revert h;refine AD (fun v189=>⟨yr 72 0::AV.d (D.l 1 D.u8 x42.Data)::X::X::X::yO 112 JAA.toD v189::dd 41 ([]),N::N::yB JAF.zv::nn 67 (yB JAF.zv::N::yB [yi v30,yO 106 JAC.toD v37,yb v31,yu v32,yu v33,yi v34,yi v35,yi v36,yO 105 JAA.toD v38,yO 104 JAE.toD v39,AV.d (D.nil 3)]::N::yB (JAB.av x42)::nn 29 (yR 193 3 JAE.toD v39::yR 191 2 JAA.toD v38::yR 189 2 JAC.toD v37::nn 5 (yR 191 2 JAA.toD v189::nn 121 ([]))))⟩) ?_ ?_
       ·intro k190 h;revert h;refine L6 117 3 1 .no D.i rfl (fun i191 v192=>⟨yr 72 0::AV.d (D.l 1 D.u8 x42.Data)::X::X::X::yO 112 JAA.toD v192::dd 4 (yO 117 D.i v187::yi (v187.length:Int)::yi (i191:Int)::dd 34 ([])),N::N::yB JAF.zv::nn 67 (yB JAF.zv::N::yB [yi v30,yO 106 JAC.toD v37,yb v31,yu v32,yu v33,yi v34,yi v35,yi v36,yO 105 JAA.toD v38,yO 104 JAE.toD v39,AV.d (D.nil 3)]::N::yB (JAB.av x42)::nn 29 (yR 193 3 JAE.toD v39::yR 191 2 JAA.toD v38::yR 189 2 JAC.toD v37::nn 5 (yR 191 2 JAA.toD v192::nn 4 (yR 3 1 D.i v187::nn 116 ([])))))⟩) ?_ ?_ ?_
        ·exact wk
        ·rintro v192 K193 h;(conv=>whnf);refine .go ?_;(conv=>whnf);refine A9 CP ?_;exact AA wk h
        rintro next194 i191 x195 v192 K193 hii191 hxi191 hwi191 h hK196;(conv=>whnf);refine .go ?_;(conv=>whnf);refine A8 (CC hii191) ?_;(conv=>whnf);refine .go ?_;refine⟨rfl,A4 (f:=D.i) hii191,?_⟩;refine⟨rfl,D.i x195,hxi191,?_⟩;refine⟨by decide,_,rfl,?_⟩;refine⟨_,rfl,?_⟩;refine⟨rfl,?_⟩;obtain⟨v197,g198,h⟩:=AB h;refine⟨rfl,Ae (f:=JAA.toD) (g:=JAA.toD) g198,_,Af (f:=JAA.toD) g198,?_⟩;refine⟨_,hwi191,?_⟩;exact hK196 _ _ wk h
       rintro v189 h;revert h;refine AD (fun (v199,v200)=>⟨yr 72 0::AV.d (D.l 1 D.u8 x42.Data)::dd 6 (yb false::dd 17 (yr 72 0::X::AV.tup [yO 153 JAA.toD v200,yb v199]::dd 18 ([]))),N::N::yB JAF.zv::nn 67 (yB JAF.zv::N::yB [yi v30,yO 106 JAC.toD v37,yb v31,yu v32,yu v33,yi v34,yi v35,yi v36,yO 105 JAA.toD v38,yO 104 JAE.toD v39,AV.d (D.nil 3)]::N::yB (JAB.av x42)::nn 29 (yR 193 3 JAE.toD v39::yR 191 2 JAA.toD v38::yR 189 2 JAC.toD v37::nn 46 (yR 191 2 JAA.toD v200::nn 80 ([]))))⟩) ?_ ?_
       ·intro k201 h;(conv=>whnf);refine inl Tryz.f264 154 (by kernel_rfl) (by kernel_rfl) ⟨rfl,?_⟩;revert h;refine AD (fun v202=>⟨yO 112 JAA.toD v189::AV.fn 265 []::dd 4 (yb v202::dd 14 ([])),N::N::yB JAF.zv::nn 67 (yB JAF.zv::N::yB [yi v30,yO 106 JAC.toD v37,yb v31,yu v32,yu v33,yi v34,yi v35,yi v36,yO 105 JAA.toD v38,yO 104 JAE.toD v39,AV.d (D.nil 3)]::N::yB (JAB.av x42)::nn 29 (yR 193 3 JAE.toD v39::yR 191 2 JAA.toD v38::yR 189 2 JAC.toD v37::nn 5 (yR 191 2 JAA.toD v189::nn 121 ([]))))⟩) ?_ ?_
        ·intro k203 h;refine⟨v189.length,by first | exact X10 _ | rfl | (simp only[X10];omega),?_⟩;refine sJ h (fun h=>?_) fun h=>AA wk h;refine⟨v189.length,by first | exact X10 _ | rfl | (simp only[X10];omega),?_⟩;exact AA wk h
        rintro v202 h;obtain⟨v204,g205,h⟩:=AB h;have g205l:=KF g205;refine⟨_,_,some [],Ui (f:=JAA.toD) (enters_of Tryz.func265 (by kernel_rfl) rfl) (fun h=>GF h) g205,?_⟩;obtain⟨v206,g207,h⟩:=AB h;have g208:(List.map JAA.toD v204).length=(List.map JAA.toD v189).length:=(by first | rfl | (simp only[X10,X21];omega)|(simp only[cpy,X10,X21,X11,X18,X17,X20];omega)|(simp only[X10] at *;omega));refine⟨_,_,some [173],(g208 ▸ Dz g207),?_⟩;exact AA (.swap 173 153 rfl rfl rfl wk) h
       rintro⟨v199,v200⟩ h;revert h;refine AD (fun v209=>⟨dd 4 (yb v209::dd 42 ([])),N::N::yB JAF.zv::nn 67 (yB JAF.zv::N::yB [yi v30,yO 106 JAC.toD v37,yb v31,yu v32,yu v33,yi v34,yi v35,yi v36,yO 153 JAA.toD v200,yO 104 JAE.toD v39,AV.d (D.nil 3)]::N::yB (JAB.av x42)::nn 29 (yR 193 3 JAE.toD v39::yR 191 2 JAA.toD v38::yR 189 2 JAC.toD v37::nn 46 (yR 191 2 JAA.toD v200::nn 80 ([]))))⟩) ?_ ?_
       ·intro k210 h;refine sJ h (fun h=>?_) fun h=>AA wk h;refine⟨x42.Data.length,X10 _,?_⟩;refine⟨by decide,_,rfl,?_⟩;refine sJ h (fun h=>?_) fun h=>AA wk h;refine⟨rfl,?_⟩;obtain⟨v211,g212,h⟩:=AB h;refine⟨_,_,none,La g212,?_⟩;exact AA wk h
       rintro v209 h;exact AA (.swap 153 105 rfl rfl rfl wk) h
      rintro⟨v184,v185⟩ h;exact AA wk h
     rintro⟨v179,v180⟩ h;(conv=>whnf);refine .go ?_;exact sJ h (fun h=>AA wk h) fun h=>AA wk h
    replace h:=OD g178 h;by_cases g213:(x42.Type_==32)=true
    ·replace h:=OL g213 h;refine⟨_,(Ah g55 (Ah g68 (Ah g139 (Ah g154 (Ah g166 (Ah g178 (GU g213))))))),_,rfl,_,rfl,?_⟩;revert h;refine AD (fun (v214,v215)=>⟨X::X::yr 70 0::X::yr 72 0::dd 5 (y0 v1::yi (v1.length:Int)::yi (i29:Int)::dd 22 (yb v214::X::X::X::[])),N::N::yB JAF.zv::nn 67 (yB JAF.zv::N::yB [yi v30,yO 106 JAC.toD v37,yb v31,yu v32,yu v33,yi v34,yi v35,yi v36,yO 105 JAA.toD v38,yO 104 JAE.toD v215,AV.d (D.nil 3)]::nn 31 (yR 193 3 JAE.toD v215::yR 191 2 JAA.toD v38::yR 189 2 JAC.toD v37::nn 127 ([])))⟩) ?_ ?_
     ·intro k216 h;obtain⟨v217,g218,h⟩:=AB h;refine⟨_,_,some [],BO g218,?_⟩;refine sJ h (fun h=>AA wk h) fun h=>?_;revert h;refine AD (fun (v219,v220)=>⟨X::X::yr 70 0::X::yr 72 0::dd 5 (y0 v1::yi (v1.length:Int)::yi (i29:Int)::dd 11 (yb true::X::X::X::yb false::X::X::X::yb v219::dd 6 ([]))),N::N::yB JAF.zv::nn 67 (yB JAF.zv::N::yB [yi v30,yO 106 JAC.toD v37,yb v31,yu v32,yu v33,yi v34,yi v35,yi v36,yO 105 JAA.toD v38,yO 104 JAE.toD v220,AV.d (D.nil 3)]::nn 31 (yR 193 3 JAE.toD v220::yR 191 2 JAA.toD v38::yR 189 2 JAC.toD v37::nn 127 ([])))⟩) ?_ ?_
      ·intro k221 h;(conv=>whnf);refine inl Tryz.f257 107 (by kernel_rfl) (by kernel_rfl) ⟨rfl,?_⟩;refine⟨x42.Data.length,X10 _,?_⟩;refine⟨by decide,_,rfl,?_⟩;(conv=>whnf);refine .go ?_;refine sJ h (fun h=>AA wk h) fun h=>?_;obtain⟨v222,g223,h⟩:=AB h;refine⟨_,_,some [120],Ej g223,?_⟩;revert h;refine AD (fun v224=>⟨yr 72 0::dd 4 (yO 112 JAE.toD v224::dd 42 ([])),N::N::yB JAF.zv::nn 67 (yB JAF.zv::N::yB [yi v30,yO 106 JAC.toD v37,yb v31,yu v32,yu v33,yi v34,yi v35,yi v36,yO 105 JAA.toD v38,yO 104 JAE.toD v39,AV.d (D.nil 3)]::N::yB (JAB.av x42)::nn 29 (yR 193 3 JAE.toD v39::yR 191 2 JAA.toD v38::yR 189 2 JAC.toD v37::nn 5 (yR 193 3 JAE.toD v224::nn 121 ([]))))⟩) ?_ ?_
       ·intro k225 h;revert h;refine Ab (fun (v226,v227)=>⟨yr 72 0::dd 4 (yO 112 JAE.toD v226::yO 120 D.i v227::dd 41 ([])),N::N::yB JAF.zv::nn 67 (yB JAF.zv::N::yB [yi v30,yO 106 JAC.toD v37,yb v31,yu v32,yu v33,yi v34,yi v35,yi v36,yO 105 JAA.toD v38,yO 104 JAE.toD v39,AV.d (D.nil 3)]::N::yB (JAB.av x42)::nn 29 (yR 193 3 JAE.toD v39::yR 191 2 JAA.toD v38::yR 189 2 JAC.toD v37::nn 5 (yR 193 3 JAE.toD v226::nn 7 (yR 3 1 D.i v227::nn 113 ([])))))⟩) ?_ ?_
        ·exact wk
        rintro next228 ⟨v226,v227⟩ K229 h hK230;refine⟨v227.length,by first | exact X10 _ | rfl | (simp only[X10];omega),?_⟩;(conv=>whnf);refine .go ?_;refine sJ h (fun h=>?_) fun h=>AA wk h;(conv=>whnf);refine .go ?_;(conv=>whnf);refine .inl (dO ?_);obtain⟨v231,g232,h⟩:=AB h;refine⟨rfl,AL (f:=D.i) g232,?_⟩;refine⟨rfl,D.i v231,(AM (f:=D.i) g232),?_⟩;obtain⟨v233,g234,h⟩:=AB h;refine⟨rfl,AL (f:=D.i) g234,?_⟩;refine⟨rfl,D.i v233,(AM (f:=D.i) g234),?_⟩;obtain⟨v235,g236,h⟩:=AB h;refine⟨rfl,AL (f:=D.i) g236,?_⟩;refine⟨rfl,D.i v235,(AM (f:=D.i) g236),?_⟩;refine⟨rfl,?_⟩;obtain⟨v237,g238,h⟩:=AB h;refine⟨rfl,Ae (f:=JAE.toD) (g:=JAE.toD) g238,_,Af (f:=JAE.toD) g238,?_⟩;(conv=>whnf);refine cO ?_;(conv=>whnf);refine .inr (.inr ?_);obtain⟨v239,g240,h⟩:=AB h;refine⟨ZZ (f:=D.i) g240,rfl,_,CJ (f:=D.i) g240,?_⟩;exact hK230 _ _ (.swap 125 120 rfl rfl rfl wk) h
       rintro v224 h;revert h;refine AD (fun (v241,v242)=>⟨yr 72 0::dd 6 (yb false::dd 25 (yr 72 0::X::AV.tup [yO 154 JAE.toD v242,yb v241]::dd 12 ([]))),N::N::yB JAF.zv::nn 67 (yB JAF.zv::N::yB [yi v30,yO 106 JAC.toD v37,yb v31,yu v32,yu v33,yi v34,yi v35,yi v36,yO 105 JAA.toD v38,yO 104 JAE.toD v39,AV.d (D.nil 3)]::N::yB (JAB.av x42)::nn 29 (yR 193 3 JAE.toD v39::yR 191 2 JAA.toD v38::yR 189 2 JAC.toD v37::nn 47 (yR 193 3 JAE.toD v242::nn 79 ([]))))⟩) ?_ ?_
       ·intro k243 h;(conv=>whnf);refine inl Tryz.f268 155 (by kernel_rfl) (by kernel_rfl) ⟨rfl,?_⟩;revert h;refine AD (fun v244=>⟨yO 112 JAE.toD v224::AV.fn 269 []::dd 4 (yb v244::dd 14 ([])),N::N::yB JAF.zv::nn 67 (yB JAF.zv::N::yB [yi v30,yO 106 JAC.toD v37,yb v31,yu v32,yu v33,yi v34,yi v35,yi v36,yO 105 JAA.toD v38,yO 104 JAE.toD v39,AV.d (D.nil 3)]::N::yB (JAB.av x42)::nn 29 (yR 193 3 JAE.toD v39::yR 191 2 JAA.toD v38::yR 189 2 JAC.toD v37::nn 5 (yR 193 3 JAE.toD v224::nn 121 ([]))))⟩) ?_ ?_
        ·intro k245 h;refine⟨v224.length,by first | exact X10 _ | rfl | (simp only[X10];omega),?_⟩;refine sJ h (fun h=>?_) fun h=>AA wk h;refine⟨v224.length,by first | exact X10 _ | rfl | (simp only[X10];omega),?_⟩;exact AA wk h
        rintro v244 h;obtain⟨v246,g247,h⟩:=AB h;have g247l:=KF g247;refine⟨_,_,some [],Tu (f:=JAE.toD) (enters_of Tryz.func269 (by kernel_rfl) rfl) (fun h=>H6 h) g247,?_⟩;obtain⟨v248,g249,h⟩:=AB h;have g250:(List.map JAE.toD v246).length=(List.map JAE.toD v224).length:=(by first | rfl | (simp only[X10,X21];omega)|(simp only[cpy,X10,X21,X11,X18,X17,X20];omega)|(simp only[X10] at *;omega));refine⟨_,_,some [174],(g250 ▸ E2 g249),?_⟩;exact AA (.swap 174 154 rfl rfl rfl wk) h
       rintro⟨v241,v242⟩ h;revert h;refine AD (fun v251=>⟨dd 4 (yb v251::dd 43 ([])),N::N::yB JAF.zv::nn 67 (yB JAF.zv::N::yB [yi v30,yO 106 JAC.toD v37,yb v31,yu v32,yu v33,yi v34,yi v35,yi v36,yO 105 JAA.toD v38,yO 154 JAE.toD v242,AV.d (D.nil 3)]::N::yB (JAB.av x42)::nn 29 (yR 193 3 JAE.toD v39::yR 191 2 JAA.toD v38::yR 189 2 JAC.toD v37::nn 47 (yR 193 3 JAE.toD v242::nn 79 ([]))))⟩) ?_ ?_
       ·intro k252 h;refine sJ h (fun h=>?_) fun h=>AA wk h;refine⟨rfl,?_⟩;obtain⟨v253,g254,h⟩:=AB h;refine⟨_,_,none,IM g254,?_⟩;exact AA wk h
       rintro v251 h;exact AA (.swap 154 104 rfl rfl rfl wk) h
      rintro⟨v219,v220⟩ h;exact AA wk h
     rintro⟨v214,v215⟩ h;(conv=>whnf);refine .go ?_;exact sJ h (fun h=>AA wk h) fun h=>AA wk h
    replace h:=OD g213 h;by_cases g255:(x42.Type_==35)=true
    ·replace h:=OL g255 h;refine⟨_,(Ah g55 (Ah g68 (Ah g139 (Ah g154 (Ah g166 (Ah g178 (Ah g213 (GU g255)))))))),_,rfl,_,rfl,?_⟩;revert h;refine AD (fun (v256,v257)=>⟨X::X::yr 70 0::X::yr 72 0::dd 5 (y0 v1::yi (v1.length:Int)::yi (i29:Int)::dd 22 (yb v256::X::X::X::[])),N::N::yB JAF.zv::nn 67 (yB JAF.zv::N::yB [yi v30,yO 106 JAC.toD v37,yb v31,yu v32,yu v33,yi v34,yi v35,yi v257,yO 105 JAA.toD v38,yO 104 JAE.toD v39,AV.d (D.nil 3)]::nn 31 (yR 193 3 JAE.toD v39::yR 191 2 JAA.toD v38::yR 189 2 JAC.toD v37::nn 127 ([])))⟩) ?_ ?_
     ·intro k258 h;obtain⟨v259,g260,h⟩:=AB h;refine⟨_,_,some [],BO g260,?_⟩;refine sJ h (fun h=>AA wk h) fun h=>?_;revert h;refine AD (fun (v261,v262)=>⟨X::X::yr 70 0::X::yr 72 0::dd 5 (y0 v1::yi (v1.length:Int)::yi (i29:Int)::dd 11 (yb true::X::X::X::yb false::X::X::X::yb v261::dd 6 ([]))),N::N::yB JAF.zv::nn 67 (yB JAF.zv::N::yB [yi v30,yO 106 JAC.toD v37,yb v31,yu v32,yu v33,yi v34,yi v35,yi v262,yO 105 JAA.toD v38,yO 104 JAE.toD v39,AV.d (D.nil 3)]::nn 31 (yR 193 3 JAE.toD v39::yR 191 2 JAA.toD v38::yR 189 2 JAC.toD v37::nn 127 ([])))⟩) ?_ ?_
      ·intro k263 h;(conv=>whnf);refine inl Tryz.f258 107 (by kernel_rfl) (by kernel_rfl) ⟨rfl,?_⟩;revert h;refine AD (fun (v264,v265)=>⟨dd 4 (yb v264::dd 12 ([])),N::N::yB JAF.zv::nn 67 (yB JAF.zv::N::yB [yi v30,yO 106 JAC.toD v37,yb v31,yu v32,yu v33,yi v34,yi v35,yi v265,yO 105 JAA.toD v38,yO 104 JAE.toD v39,AV.d (D.nil 3)]::N::yB (JAB.av x42)::nn 29 (yR 193 3 JAE.toD v39::yR 191 2 JAA.toD v38::yR 189 2 JAC.toD v37::nn 127 ([])))⟩) ?_ ?_
       ·intro k266 h;revert h;refine AD (fun v267=>⟨yr 72 0::X::X::X::yb false::dd 4 (yb ((x42.Data.length:Int)==4)::dd 7 ([])),N::N::yB JAF.zv::nn 67 (yB JAF.zv::N::yB [yi v30,yO 106 JAC.toD v37,yb v31,yu v32,yu v33,yi v34,yi v35,yi v267,yO 105 JAA.toD v38,yO 104 JAE.toD v39,AV.d (D.nil 3)]::N::yB (JAB.av x42)::nn 29 (yR 193 3 JAE.toD v39::yR 191 2 JAA.toD v38::yR 189 2 JAC.toD v37::nn 127 ([])))⟩) ?_ ?_
        ·intro k268 h;(conv=>whnf);refine inl Tryz.f254 124 (by kernel_rfl) (by kernel_rfl) ⟨rfl,?_⟩;obtain⟨v269,g270,h⟩:=AB h;refine⟨_,_,some [],CS g270,?_⟩;refine⟨x42.Data.length,X10 _,?_⟩;exact AA wk h
        rintro v267 h;refine sJ h (fun h=>?_) fun h=>AA wk h;obtain⟨v271,g272,h⟩:=AB h;refine⟨_,_,some [],II g272,?_⟩;exact AA wk h
       rintro⟨v264,v265⟩ h;exact AA wk h
      rintro⟨v261,v262⟩ h;exact AA wk h
     rintro⟨v256,v257⟩ h;(conv=>whnf);refine .go ?_;exact sJ h (fun h=>AA wk h) fun h=>AA wk h
    replace h:=OD g255 h;refine⟨_,(Ah g55 (Ah g68 (Ah g139 (Ah g154 (Ah g166 (Ah g178 (Ah g213 (Ah g255 YK)))))))),_,rfl,_,rfl,?_⟩;(conv=>whnf);refine .go ?_;(conv=>whnf);refine .go ?_;exact AA wk h
   rintro⟨v44,v45,v46,v47,v48,v49,v50,v51,v52,v53⟩ h;refine⟨_,hwi29,?_⟩;exact hK43 _ _ wk h
  rintro⟨v18,v19,v20,v21,v22,v23,v24,v25,v26,v27⟩ h;exact AA (.swap 104 67 rfl rfl rfl (.swap 105 65 rfl rfl rfl (.swap 106 64 rfl rfl rfl wk))) h
 rintro⟨v5,v6,v7,v8,v9,v10,v11,v12,v13,v14,v15⟩ h;(conv=>whnf);refine .go ?_;refine sJ h ?_ ?_<;>intro h
 ·cases h;exact⟨rfl,rfl⟩
 refine⟨v1.length,X10 _,?_⟩;revert h;refine AD (fun v273=>⟨X::X::yr 2 0::X::yr 4 0::dd 63 ([]),N::N::yB JAF.zv::N::yB [yi v5,yO 64 JAC.toD v13,yb v6,yu v7,yu v8,yi v9,yi v10,yi v11,yO 65 JAA.toD v14,yO 67 JAE.toD v15,yO 56 JAB.toD v273]::nn 51 (yR 144 3 JAB.toD v273::nn 7 (yR 189 2 JAC.toD v13::yR 191 2 JAA.toD v14::N::yR 193 3 JAE.toD v15::nn 166 ([])))⟩) ?_ ?_
 ·intro k274 h;revert h;refine AW 21 3 JAB.toD rfl (fun i275 v276=>⟨X::X::yr 2 0::X::yr 4 0::dd 16 (y0 v1::yi (v1.length:Int)::yi (i275:Int)::dd 44 ([])),N::N::yB JAF.zv::N::yB [yi v5,yO 64 JAC.toD v13,yb v6,yu v7,yu v8,yi v9,yi v10,yi v11,yO 65 JAA.toD v14,yO 67 JAE.toD v15,yO 56 JAB.toD v276]::nn 51 (yR 144 3 JAB.toD v276::nn 7 (yR 189 2 JAC.toD v13::yR 191 2 JAA.toD v14::N::yR 193 3 JAE.toD v15::nn 166 ([])))⟩) ?_ ?_ ?_
  ·exact wk
  ·rintro v276 K277 h;(conv=>whnf);refine .go ?_;(conv=>whnf);refine A9 CP ?_;exact AA wk h
  rintro next278 i275 x279 v276 K277 hii275 hxi275 hwi275 h hK280;(conv=>whnf);refine .go ?_;(conv=>whnf);refine A8 (CC hii275) ?_;(conv=>whnf);refine .go ?_;refine⟨A4 (f:=JAB.toD) hii275,JAB.toD x279,hxi275,rfl,?_⟩;revert h;refine AD (fun v281=>⟨X::X::yr 2 0::X::yr 4 0::X::X::yr 7 0::dd 13 (y0 v1::yi (v1.length:Int)::yi (i275:Int)::dd 22 (yb v281::dd 21 ([]))),N::N::yB JAF.zv::N::yB [yi v5,yO 64 JAC.toD v13,yb v6,yu v7,yu v8,yi v9,yi v10,yi v11,yO 65 JAA.toD v14,yO 67 JAE.toD v15,yO 56 JAB.toD v276]::N::N::yB (JAB.av x279)::nn 48 (yR 144 3 JAB.toD v276::nn 7 (yR 189 2 JAC.toD v13::yR 191 2 JAA.toD v14::N::yR 193 3 JAE.toD v15::nn 166 ([])))⟩) ?_ ?_
  ·intro k282 h;obtain⟨v283,g284,h⟩:=AB h;refine⟨_,_,some [],Gh g284,?_⟩;refine sJ h (fun h=>?_) fun h=>AA wk h;obtain⟨v285,g286,h⟩:=AB h;refine⟨_,_,some [],KW g286,?_⟩;refine sJ h (fun h=>?_) fun h=>AA wk h;refine⟨_,rfl,?_⟩;refine sJ h (fun h=>?_) fun h=>AA wk h;refine⟨x279.Data.length,X10 _,?_⟩;exact AA wk h
  rintro v281 h;revert h;refine AD (fun v287=>⟨X::X::yr 2 0::X::yr 4 0::dd 16 (y0 v1::yi (v1.length:Int)::yi (i275:Int)::dd 44 ([])),N::N::yB JAF.zv::N::yB [yi v5,yO 64 JAC.toD v13,yb v6,yu v7,yu v8,yi v9,yi v10,yi v11,yO 65 JAA.toD v14,yO 67 JAE.toD v15,yO 56 JAB.toD v287]::nn 51 (yR 144 3 JAB.toD v287::nn 7 (yR 189 2 JAC.toD v13::yR 191 2 JAA.toD v14::N::yR 193 3 JAE.toD v15::nn 166 ([])))⟩) ?_ ?_
  ·intro k288 h;refine sJ h (fun h=>?_) fun h=>AA wk h;(conv=>whnf);refine .inl (dO ?_);obtain⟨v289,g290,h⟩:=AB h;refine⟨_,_,Ho g290,.inl rfl,?_⟩;refine⟨rfl,?_⟩;obtain⟨v291,g292,h⟩:=AB h;refine⟨rfl,Ae (f:=JAB.toD) (g:=JAB.toD) g292,_,Af (f:=JAB.toD) g292,?_⟩;(conv=>whnf);refine cO ?_;exact AA wk h
  rintro v287 h;refine⟨_,hwi275,?_⟩;exact hK280 _ _ wk h
 rintro v273 h;refine⟨v273.length,by first | exact X10 _ | rfl | (simp only[X10];omega),?_⟩;(conv=>whnf);refine .go ?_;refine sJ h ?_ ?_<;>intro h
 ·cases h;exact⟨rfl,rfl⟩
 obtain⟨v293,g294,h⟩:=AB h;have g294l:=KF g294;refine⟨_,_,some [],Uc (f:=JAB.toD) (enters_of Tryz.func145 (by kernel_rfl) rfl) (fun h=>KR h) g294,?_⟩;refine⟨rfl,?_⟩;refine⟨rfl,?_⟩;refine⟨rfl,?_⟩;refine⟨(by first | rfl | (simp only[X10];omega)|(simp only[cpy,X10,X21,X11,X18,X17,X20];omega)),?_⟩;cases h;exact⟨rfl,rfl⟩
end Go.AX.Q33
end
section
namespace Go.AX.Q33
open Go Go.AX Go.Proofs
set_option maxRecDepth 100000
set_option maxHeartbeats 4000000
set_option linter.unusedVariables false
theorem GQ {wl:Prop} {a0:List UInt8} {r:Int} (h:Ei a0=some r):CallsOK (Wl wl) Tryz.prog 97 [AV.d (D.l 1 D.u8 a0)] [] (.d (D.i r)) []:=by
 refine oK Tryz.f97 ⟨rfl,?_⟩;unfold Ei at h;(conv=>whnf);refine .inl (dO ?_);obtain⟨v1,g2,h⟩:=AB h;refine⟨AL (f:=D.u8) g2,D.u8 v1,AM (f:=D.u8) g2,rfl,?_⟩;refine⟨_,A3 v1,?_⟩;refine⟨by decide,_,rfl,?_⟩;obtain⟨v3,g4,h⟩:=AB h;refine⟨AL (f:=D.u8) g4,D.u8 v3,AM (f:=D.u8) g4,rfl,?_⟩;refine⟨_,A3 v3,?_⟩;refine⟨_,rfl,?_⟩;(conv=>whnf);refine cO ?_;cases h;exact⟨rfl,rfl⟩
theorem Kw {wl:Prop} {a0:List UInt8} {r:(List UInt8)×(List UInt8)×Bool} (h:F7 a0=some r):CallsOK (Wl wl) Tryz.prog 131 [AV.d (D.l 1 D.u8 a0)] [] (.tup [.d (D.l 1 D.u8 r.1),.d (D.l 1 D.u8 r.2.1),.d (D.b r.2.2)]) []:=by
 refine oK Tryz.f131 ⟨rfl,?_⟩;unfold F7 at h;revert h;refine AD (fun v1=>⟨y1 a0::dd 15 (yb v1::dd 9 ([])),nn 26 ([])⟩) ?_ ?_
 ·intro k2 h;refine⟨a0.length,X10 _,?_⟩;refine sJ h (fun h=>AA wk h) fun h=>?_;refine⟨a0.length,X10 _,?_⟩;refine⟨_,rfl,?_⟩;obtain⟨v3,g4,h⟩:=AB h;refine⟨_,_,some [],GQ g4,?_⟩;exact AA wk h
 rintro v1 h;(conv=>whnf);refine .go ?_;refine sJ h ?_ ?_<;>intro h
 ·(conv=>whnf);refine .inl ?_;refine⟨rfl,?_⟩;(conv=>whnf);refine .inl ?_;refine⟨rfl,?_⟩;cases h;exact⟨rfl,rfl⟩
 obtain⟨v5,g6,h⟩:=AB h;refine⟨_,_,some [],GQ g6,?_⟩;refine⟨_,rfl,?_⟩;(conv=>whnf);refine .inl (dO ?_);obtain⟨v7,g8,h⟩:=AB h;refine⟨BX (f:=D.u8) g8,_,BI (f:=D.u8) g8,?_⟩;obtain⟨v9,g10,h⟩:=AB h;refine⟨CH (f:=D.u8) g10,_,CJ (f:=D.u8) g10,?_⟩;(conv=>whnf);refine cO ?_;cases h;exact⟨rfl,rfl⟩
theorem K0 {wl:Prop} {a0:List UInt8} {r:(List JAB)×Int} (h:EO a0=some r):CallsOK (Wl wl) Tryz.prog 132 [AV.d (D.l 1 D.u8 a0)] [] (.tup [.d (D.l 3 JAB.toD r.1),.d (D.i r.2)]) []:=by
 refine oK Tryz.f132 ⟨rfl,?_⟩;unfold EO at h;revert h;refine AD (fun v1=>⟨dd 4 (yO 4 JAB.toD v1::dd 53 ([])),nn 4 (yR 144 3 JAB.toD v1::nn 53 ([]))⟩) ?_ ?_
 ·intro k2 h;revert h;refine Ab (fun (v3,v4)=>⟨y1 v3::X::X::X::yO 4 JAB.toD v4::dd 53 ([]),nn 4 (yR 144 3 JAB.toD v4::nn 53 ([]))⟩) ?_ ?_
  ·exact wk
  rintro next5 ⟨v3,v4⟩ K6 h hK7;refine⟨v3.length,X10 _,?_⟩;(conv=>whnf);refine .go ?_;refine sJ h (fun h=>?_) fun h=>AA wk h;(conv=>whnf);refine .go ?_;obtain⟨v8,g9,h⟩:=AB h;refine⟨AL (f:=D.u8) g9,D.u8 v8,AM (f:=D.u8) g9,rfl,?_⟩;refine⟨_,Bc _,?_⟩;revert h;refine AD (fun v10=>⟨y1 v3::X::X::X::yO 4 JAB.toD v4::yi v10::dd 52 ([]),nn 4 (yR 144 3 JAB.toD v4::nn 53 ([]))⟩) ?_ ?_
  ·intro k11 h;exact sJ h (fun h=>AA wk h) fun h=>AA wk h
  rintro v10 h;revert h;refine AD (fun v12=>⟨y1 v3::X::X::X::yO 4 JAB.toD v4::yi v10::dd 23 (yb v12::dd 28 ([])),nn 4 (yR 144 3 JAB.toD v4::nn 53 ([]))⟩) ?_ ?_
  ·intro k13 h;refine⟨v3.length,X10 _,?_⟩;refine sJ h (fun h=>AA wk h) fun h=>?_;refine⟨v3.length,X10 _,?_⟩;refine⟨_,rfl,?_⟩;obtain⟨v14,g15,h⟩:=AB h;refine⟨BX (f:=D.u8) g15,_,BI (f:=D.u8) g15,?_⟩;obtain⟨v16,g17,h⟩:=AB h;refine⟨_,_,some [],CS g17,?_⟩;exact AA wk h
  rintro v12 h;(conv=>whnf);refine .go ?_;refine sJ h ?_ ?_<;>intro h
  ·(conv=>whnf);refine .inl ?_;refine⟨rfl,?_⟩;cases h;exact⟨rfl,rfl⟩
  obtain⟨v18,g19,h⟩:=AB h;refine⟨BX (f:=D.u8) g19,_,BI (f:=D.u8) g19,?_⟩;obtain⟨v20,g21,h⟩:=AB h;refine⟨_,_,some [],CS g21,?_⟩;refine⟨_,rfl,?_⟩;(conv=>whnf);refine .inl (dO ?_);obtain⟨v22,g23,h⟩:=AB h;refine⟨AL (f:=D.u8) g23,D.u8 v22,AM (f:=D.u8) g23,rfl,?_⟩;refine⟨_,Bc _,?_⟩;refine⟨_,A3 (Dh ((BitVec.ofInt 8 (v22.toNat:Int) &&& BitVec.ofInt 8 224).toNat:Int)),?_⟩;obtain⟨v24,g25,h⟩:=AB h;refine⟨AL (f:=D.u8) g25,D.u8 v24,AM (f:=D.u8) g25,rfl,?_⟩;refine⟨_,A3 v24,?_⟩;obtain⟨v26,g27,h⟩:=AB h;refine⟨BX (f:=D.u8) g27,_,BI (f:=D.u8) g27,?_⟩;obtain⟨_,g28,h⟩:=AB h;refine⟨DZ (g:=D.u8) g28,?_⟩;(conv=>whnf);refine .inl ?_;refine⟨rfl,?_⟩;refine⟨rfl,?_⟩;obtain⟨v29,g30,h⟩:=AB h;refine⟨rfl,Ae (f:=JAB.toD) (g:=JAB.toD) g30,_,Af (f:=JAB.toD) g30,?_⟩;(conv=>whnf);refine cO ?_;obtain⟨v31,g32,h⟩:=AB h;refine⟨CH (f:=D.u8) g32,_,CJ (f:=D.u8) g32,?_⟩;exact hK7 _ _ wk h
 rintro v1 h;(conv=>whnf);refine .inl ?_;refine⟨rfl,?_⟩;cases h;exact⟨rfl,rfl⟩
theorem Qo {wl:Prop} {a0:Addr} {r:Bool} (h:Ha a0=some r):CallsOK (Wl wl) Tryz.prog 196 [AV.d (Addr.toD a0)] [] (.d (D.b r)) []:=by
 refine oK Tryz.f196 ⟨rfl,?_⟩;unfold Ha at h;revert h;refine AD (fun v1=>⟨X::X::yb v1::dd 12 ([]),nn 15 ([])⟩) ?_ ?_
 ·intro k2 h;refine sJ h (fun h=>AA wk h) fun h=>?_;exact sJ h (fun h=>AA wk h) fun h=>AA wk h
 rintro v1 h;cases h;exact⟨rfl,rfl⟩
theorem JB {wl:Prop} {a0:Addr} {r:Int} (h:Cc a0=some r):CallsOK (Wl wl) Tryz.prog 197 [AV.d (Addr.toD a0)] [] (.d (D.i r)) []:=by
 refine oK Tryz.f197 ⟨rfl,?_⟩;unfold Cc at h;(conv=>whnf);refine .go ?_;refine sJ h ?_ ?_<;>intro h
 ·cases h;exact⟨rfl,rfl⟩
 cases h;exact⟨rfl,rfl⟩
theorem Oh {wl:Prop} {a0:Int} {r:UInt64×UInt64} (h:E1 a0=some r):CallsOK (Wl wl) Tryz.prog 221 [AV.d (D.i a0)] [] (.tup [.d (D.u64 r.1),.d (D.u64 r.2)]) []:=by
 refine oK Tryz.f221 ⟨rfl,?_⟩;unfold E1 at h;(conv=>whnf);refine .go ?_;refine sJ h ?_ ?_<;>intro h
 ·refine⟨_,rfl,?_⟩;refine⟨_,As _,?_⟩;refine⟨Int.natCast_nonneg _,_,As _,?_⟩;refine⟨_,As _,?_⟩;cases h;exact⟨rfl,rfl⟩
 refine⟨_,As _,?_⟩;refine⟨Int.natCast_nonneg _,_,As _,?_⟩;refine⟨_,As _,?_⟩;cases h;exact⟨rfl,rfl⟩
theorem OW {wl:Prop} {a0:Addr} {a1:Int} {r:Addr} (h:EK a0 a1=some r):CallsOK (Wl wl) Tryz.prog 198 [AV.d (Addr.toD a0),AV.d (D.i a1)] [] (.d (Addr.toD r)) []:=by
 refine oK Tryz.f198 ⟨rfl,?_⟩;unfold EK at h;obtain⟨v1,g2,h⟩:=AB h;refine⟨_,_,some [],JB g2,?_⟩;refine⟨_,rfl,?_⟩;obtain⟨⟨v3,v4⟩,g5,h⟩:=AB h;refine⟨_,_,some [],Oh g5,?_⟩;refine⟨_,As _,?_⟩;refine⟨_,As _,?_⟩;cases h;exact⟨rfl,rfl⟩
theorem PM {wl:Prop} {a0:Addr} {a1:Int} {r:JAD×Int} (h:Gm a0 a1=some r):CallsOK (Wl wl) Tryz.prog 173 [AV.d (Addr.toD a0),AV.d (D.i a1)] [] (.tup [.d (JAD.toD r.1),.d (D.i r.2)]) []:=by
 refine oK Tryz.f173 ⟨rfl,?_⟩;unfold Gm at h;(conv=>whnf);refine .go ?_;obtain⟨v1,g2,h⟩:=AB h;refine⟨_,_,some [],Qo g2,?_⟩;(conv=>whnf);refine .go ?_;refine sJ h ?_ ?_<;>intro h
 ·cases h;exact⟨rfl,rfl⟩
 revert h;refine AD (fun v3=>⟨X::yi a1::yr 2 0::X::yr 4 0::dd 6 (yb v3::dd 14 ([])),N::N::yB (Addr.av a0)::N::yB JAD.zv::nn 21 ([])⟩) ?_ ?_
 ·intro k4 h;refine sJ h (fun h=>AA wk h) fun h=>?_;obtain⟨v5,g6,h⟩:=AB h;refine⟨_,_,some [],JB g6,?_⟩;exact AA wk h
 rintro v3 h;(conv=>whnf);refine .go ?_;refine sJ h ?_ ?_<;>intro h
 ·cases h;exact⟨rfl,rfl⟩
 obtain⟨v7,g8,h⟩:=AB h;refine⟨_,_,some [],OW g8,?_⟩;cases h;exact⟨rfl,rfl⟩
theorem EI {wl:Prop} {a0:List UInt8} {a1:Bool} {r:(List JAD)×Bool} (h:Bn a0 a1=some r):CallsOK (Wl wl) Tryz.prog 134 [AV.d (D.l 1 D.u8 a0),AV.d (D.b a1)] [] (.tup [.d (D.l 4 JAD.toD r.1),.d (D.b r.2)]) []:=by
 refine oK Tryz.f134 ⟨rfl,?_⟩;unfold Bn at h;revert h;refine AD (fun v1=>⟨y1 a0::dd 5 (yi v1::dd 58 ([])),nn 65 ([])⟩) ?_ ?_
 ·intro k2 h;exact sJ h (fun h=>AA wk h) fun h=>AA wk h
 rintro v1 h;revert h;refine AD (fun v3=>⟨dd 7 (yO 7 JAD.toD v3::dd 57 ([])),nn 7 (yR 73 4 JAD.toD v3::nn 57 ([]))⟩) ?_ ?_
 ·intro k4 h;revert h;refine Ab (fun (v5,v6)=>⟨y1 v5::dd 5 (yi v1::yO 7 JAD.toD v6::dd 57 ([])),nn 7 (yR 73 4 JAD.toD v6::nn 57 ([]))⟩) ?_ ?_
  ·exact wk
  rintro next7 ⟨v5,v6⟩ K8 h hK9;refine⟨v5.length,X10 _,?_⟩;(conv=>whnf);refine .go ?_;refine sJ h (fun h=>?_) fun h=>AA wk h;(conv=>whnf);refine .go ?_;obtain⟨v10,g11,h⟩:=AB h;refine⟨AL (f:=D.u8) g11,D.u8 v10,AM (f:=D.u8) g11,rfl,?_⟩;refine⟨_,A3 v10,?_⟩;refine⟨_,rfl,?_⟩;refine⟨by decide,_,rfl,?_⟩;revert h;refine AD (fun v12=>⟨y1 v5::dd 5 (yi v1::yO 7 JAD.toD v6::yi (v10.toNat:Int)::AV.d (D.i (AK (Int.tdiv (AK ((v10.toNat:Int) + 7)) 8)))::dd 25 (yb v12::dd 29 ([]))),nn 7 (yR 73 4 JAD.toD v6::nn 57 ([]))⟩) ?_ ?_
  ·intro k13 h;refine sJ h (fun h=>AA wk h) fun h=>?_;refine⟨v5.length,X10 _,?_⟩;refine⟨_,rfl,?_⟩;exact AA wk h
  rintro v12 h;(conv=>whnf);refine .go ?_;refine sJ h ?_ ?_<;>intro h
  ·(conv=>whnf);refine .inl ?_;refine⟨rfl,?_⟩;cases h;exact⟨rfl,rfl⟩
  refine⟨by decide,_,rfl,?_⟩;obtain⟨_,g14,h⟩:=AB h;refine⟨Vf g14 (X29 rfl),D.u8 (0:UInt8),rfl,(List.map D.u8 (List.replicate (Int.toNat (AK (Int.tdiv v1 8))) (0:UInt8))),List.map_replicate.symm,?_⟩;refine⟨_,rfl,?_⟩;obtain⟨v15,g16,h⟩:=AB h;refine⟨BX (f:=D.u8) g16,_,BI (f:=D.u8) g16,?_⟩;refine⟨rfl,List.map D.u8 (cpy (List.replicate (Int.toNat (AK (Int.tdiv v1 8))) (0:UInt8)) 0 (List.replicate (Int.toNat (AK (Int.tdiv v1 8))) (0:UInt8)).length v15),bK,(min v15.length (List.replicate (Int.toNat (AK (Int.tdiv v1 8))) (0:UInt8)).length),aU,?_⟩;refine⟨(by first | rfl | (simp only[X10];omega)|(simp only[cpy,X10,X21,X11,X18,X17,X20];omega)),?_⟩;obtain⟨⟨v17,v18⟩,g19,h⟩:=AB h;refine⟨_,_,none,Fp g19,?_⟩;obtain⟨⟨v20,v21⟩,g22,h⟩:=AB h;refine⟨_,_,some [],PM g22,?_⟩;(conv=>whnf);refine .inl (dO ?_);refine⟨rfl,?_⟩;obtain⟨v23,g24,h⟩:=AB h;refine⟨rfl,Ae (f:=JAD.toD) (g:=JAD.toD) g24,_,Af (f:=JAD.toD) g24,?_⟩;refine⟨_,rfl,?_⟩;obtain⟨v25,g26,h⟩:=AB h;refine⟨CH (f:=D.u8) g26,_,CJ (f:=D.u8) g26,?_⟩;(conv=>whnf);refine cO ?_;exact hK9 _ _ wk h
 rintro v3 h;(conv=>whnf);refine .inl ?_;refine⟨rfl,?_⟩;cases h;exact⟨rfl,rfl⟩
theorem LX {wl:Prop} {a0:List UInt8} {a1:List UInt8} {r:Bool} (h:bytes_HasPrefix a0 a1=some r):CallsOK (Wl wl) Tryz.prog 195 [AV.d (D.l 1 D.u8 a0),AV.d (D.l 1 D.u8 a1)] [] (.d (D.b r)) []:=by
 refine oK Tryz.f195 ⟨rfl,?_⟩;unfold bytes_HasPrefix at h;revert h;refine AD (fun v1=>⟨dd 4 (yb v1::dd 13 ([])),nn 18 ([])⟩) ?_ ?_
 ·intro k2 h;refine⟨a0.length,X10 _,?_⟩;refine⟨a1.length,X10 _,?_⟩;refine sJ h (fun h=>?_) fun h=>AA wk h;refine⟨a1.length,X10 _,?_⟩;obtain⟨v3,g4,h⟩:=AB h;refine⟨BX (f:=D.u8) g4,_,BI (f:=D.u8) g4,?_⟩;obtain⟨v5,g6,h⟩:=AB h;refine⟨_,_,some [],Jl g6,?_⟩;exact AA wk h
 rintro v1 h;cases h;exact⟨rfl,rfl⟩
theorem LH {wl:Prop} {a0:List UInt8} {a1:List UInt8} {r:(List UInt8)×Bool} (h:bytes_CutPrefix a0 a1=some r):CallsOK (Wl wl) Tryz.prog 171 [AV.d (D.l 1 D.u8 a0),AV.d (D.l 1 D.u8 a1)] [] (.tup [.d (D.l 1 D.u8 r.1),.d (D.b r.2)]) []:=by
 refine oK Tryz.f171 ⟨rfl,?_⟩;unfold bytes_CutPrefix at h;obtain⟨v1,g2,h⟩:=AB h;refine⟨_,_,some [],LX g2,?_⟩;(conv=>whnf);refine .go ?_;refine sJ h ?_ ?_<;>intro h
 ·cases h;exact⟨rfl,rfl⟩
 refine⟨a1.length,X10 _,?_⟩;obtain⟨v3,g4,h⟩:=AB h;refine⟨CH (f:=D.u8) g4,_,CJ (f:=D.u8) g4,?_⟩;cases h;exact⟨rfl,rfl⟩
theorem Ib {wl:Prop} {a0:JAG} {r:Bool×JAG} (h:Cf a0=some r):CallsOK (Wl wl) Tryz.prog 133 [.ref 0 0] [.box (JAG.av a0)] (.d (D.b r.1)) [.box (JAG.av r.2)]:=by
 refine oK Tryz.f133 ⟨rfl,?_⟩;unfold Cf at h;refine⟨a0.attrs.length,X10 _,?_⟩;revert h;refine AD (fun (v1,v2)=>⟨X::X::X::AV.mp 10::dd 91 ([]),yB (JAG.av v1)::nn 9 (some (OB.map 3 3 (BS D.i D.i v2))::nn 85 ([]))⟩) ?_ ?_
 ·intro k3 h;revert h;refine AW 13 3 JAB.toD rfl (fun i4 (v5,v6)=>⟨yr 0 0::X::X::AV.mp 10::dd 9 (AV.d (D.l 3 JAB.toD a0.attrs)::yi (a0.attrs.length:Int)::yi (i4:Int)::dd 79 ([])),yB (JAG.av v5)::nn 9 (some (OB.map 3 3 (BS D.i D.i v6))::nn 85 ([]))⟩) ?_ ?_ ?_
  ·exact wk
  ·rintro⟨v5,v6⟩ K7 h;(conv=>whnf);refine .go ?_;(conv=>whnf);refine A9 CP ?_;exact AA wk h
  rintro next8 i4 x9 ⟨v5,v6⟩ K7 hii4 hxi4 hwi4 h hK10;(conv=>whnf);refine .go ?_;(conv=>whnf);refine A8 (CC hii4) ?_;(conv=>whnf);refine .go ?_;refine⟨A4 (f:=JAB.toD) hii4,JAB.toD x9,hxi4,rfl,?_⟩;obtain⟨v11,g12,h⟩:=AB h;refine⟨_,Dn (ek:=D.i) (ev:=D.i) (l:=v6) (k:=x9.Type_) B0,D.i v11,Gz (z:=0) rfl g12,_,rfl,?_⟩;refine⟨_,rfl,?_⟩;refine⟨_,D6 (ek:=D.i) (ev:=D.i) (l:=v6) (k:=x9.Type_) (v:=(AK (v11 + 1))) B0,?_⟩;refine⟨rfl,?_⟩;obtain⟨⟨v13,v14⟩,g15,h⟩:=AB h;refine⟨_,_,some [],LH g15,?_⟩;(conv=>whnf);refine .go ?_;revert h;refine AD (fun (v16,v17)=>⟨yr 0 0::X::X::AV.mp 10::dd 4 (yb v16::dd 4 (AV.d (D.l 3 JAB.toD a0.attrs)::yi (a0.attrs.length:Int)::yi (i4:Int)::dd 79 ([]))),yB (JAG.av v17)::nn 9 (some (OB.map 3 3 (BS D.i D.i (F3 v6 x9.Type_ (AK (v11 + 1)))))::nn 85 ([]))⟩) ?_ ?_
  ·intro k18 h;refine sJ h ?_ ?_<;>intro h
   ·revert h;refine AD (fun v19=>⟨yr 0 0::X::X::AV.mp 10::X::X::y1 v13::dd 6 (AV.d (D.l 3 JAB.toD a0.attrs)::yi (a0.attrs.length:Int)::yi (i4:Int)::dd 38 (yb v19::dd 40 ([]))),yB (JAG.av v5)::nn 9 (some (OB.map 3 3 (BS D.i D.i (F3 v6 x9.Type_ (AK (v11 + 1)))))::nn 85 ([]))⟩) ?_ ?_
    ·intro k20 h;refine sJ h (fun h=>AA wk h) fun h=>?_;refine⟨v13.length,X10 _,?_⟩;refine sJ h (fun h=>AA wk h) fun h=>?_;obtain⟨v21,g22,h⟩:=AB h;refine⟨AL (f:=D.u8) g22,D.u8 v21,AM (f:=D.u8) g22,rfl,?_⟩;refine sJ h (fun h=>AA wk h) fun h=>?_;obtain⟨v23,g24,h⟩:=AB h;refine⟨AL (f:=D.u8) g24,D.u8 v23,AM (f:=D.u8) g24,rfl,?_⟩;exact AA wk h
    rintro v19 h;(conv=>whnf);refine .go ?_;refine sJ h ?_ ?_<;>intro h
    ·cases h;exact⟨rfl,rfl⟩
    obtain⟨v25,g26,h⟩:=AB h;refine⟨BX (f:=D.u8) g26,_,BI (f:=D.u8) g26,?_⟩;obtain⟨⟨v27,v28⟩,g29,h⟩:=AB h;refine⟨_,_,some [],Fp g29,?_⟩;obtain⟨v30,g31,h⟩:=AB h;refine⟨CH (f:=D.u8) g31,_,CJ (f:=D.u8) g31,?_⟩;obtain⟨⟨v32,v33⟩,g34,h⟩:=AB h;refine⟨_,_,some [],EI g34,?_⟩;exact AA wk h
   revert h;refine AD (fun (v35,v36)=>⟨yr 0 0::X::X::AV.mp 10::dd 4 (yb v35::dd 4 (AV.d (D.l 3 JAB.toD a0.attrs)::yi (a0.attrs.length:Int)::yi (i4:Int)::dd 79 ([]))),yB [AV.d (D.l 3 JAB.toD v5.attrs),AV.d (D.b v5.next.V6),AV.d (D.u64 v5.next.Hi),AV.d (D.u64 v5.next.Lo),AV.d (D.l 4 JAD.toD v5.gone4),y6 v36,AV.d (D.l 4 JAD.toD v5.new4),AV.d (D.l 4 JAD.toD v5.new6)]::nn 9 (some (OB.map 3 3 (BS D.i D.i (F3 v6 x9.Type_ (AK (v11 + 1)))))::nn 85 ([]))⟩) ?_ ?_
   ·intro k37 h;refine sJ h (fun h=>?_) fun h=>AA wk h;revert h;refine AD (fun (v38,v39)=>⟨yr 0 0::X::X::AV.mp 10::dd 4 (yb v38::dd 4 (AV.d (D.l 3 JAB.toD a0.attrs)::yi (a0.attrs.length:Int)::yi (i4:Int)::dd 79 ([]))),yB [AV.d (D.l 3 JAB.toD v5.attrs),AV.d (D.b v5.next.V6),AV.d (D.u64 v5.next.Hi),AV.d (D.u64 v5.next.Lo),AV.d (D.l 4 JAD.toD v5.gone4),y6 v39,AV.d (D.l 4 JAD.toD v5.new4),AV.d (D.l 4 JAD.toD v5.new6)]::nn 9 (some (OB.map 3 3 (BS D.i D.i (F3 v6 x9.Type_ (AK (v11 + 1)))))::nn 85 ([]))⟩) ?_ ?_
    ·intro k40 h;refine sJ h (fun h=>?_) fun h=>AA wk h;obtain⟨⟨v41,v42⟩,g43,h⟩:=AB h;refine⟨_,_,some [],EI g43,?_⟩;exact AA wk h
    rintro⟨v38,v39⟩ h;exact AA wk h
   rintro⟨v35,v36⟩ h;exact AA wk h
  rintro⟨v16,v17⟩ h;(conv=>whnf);refine .go ?_;refine sJ h ?_ ?_<;>intro h
  ·cases h;exact⟨rfl,rfl⟩
  refine⟨_,hwi4,?_⟩;exact hK10 _ _ wk h
 rintro⟨v1,v2⟩ h;revert h;refine AD (fun v44=>⟨X::X::yb v44::dd 92 ([]),yB (JAG.av v1)::nn 95 ([])⟩) ?_ ?_
 ·intro k45 h;obtain⟨v46,g47,h⟩:=AB h;refine⟨_,Dn (ek:=D.i) (ev:=D.i) (l:=v2) (k:=14) B0,D.i v46,Gz (z:=0) rfl g47,_,rfl,?_⟩;refine sJ h (fun h=>?_) fun h=>AA wk h;obtain⟨v48,g49,h⟩:=AB h;refine⟨_,Dn (ek:=D.i) (ev:=D.i) (l:=v2) (k:=15) B0,D.i v48,Gz (z:=0) rfl g49,_,rfl,?_⟩;exact AA wk h
 rintro v44 h;cases h;exact⟨rfl,rfl⟩
theorem Gk {wl:Prop} {a0:JAG} {a1:List UInt8} {r:Bool×JAG} (h:BZ a0 a1=some r):CallsOK (Wl wl) Tryz.prog 96 [.ref 0 0,AV.d (D.l 1 D.u8 a1)] [.box (JAG.av a0)] (.d (D.b r.1)) [.box (JAG.av r.2)]:=by
 refine oK Tryz.f96 ⟨rfl,?_⟩;unfold BZ at h;obtain⟨⟨v1,v2,v3⟩,g4,h⟩:=AB h;refine⟨_,_,some [],Kw g4,?_⟩;(conv=>whnf);refine .go ?_;refine sJ h ?_ ?_<;>intro h
 ·cases h;exact⟨rfl,rfl⟩
 obtain⟨⟨v5,v6,v7⟩,g8,h⟩:=AB h;refine⟨_,_,some [],Kw g8,?_⟩;(conv=>whnf);refine .go ?_;refine sJ h ?_ ?_<;>intro h
 ·cases h;exact⟨rfl,rfl⟩
 obtain⟨⟨v9,v10⟩,g11,h⟩:=AB h;refine⟨_,_,some [],K0 g11,?_⟩;revert h;refine AD (fun (v12,v13)=>⟨yr 0 0::y1 v6::X::X::X::y1 v1::dd 34 (yb v12::dd 76 ([])),yB (JAG.av v13)::nn 117 ([])⟩) ?_ ?_
 ·intro k14 h;refine sJ h (fun h=>AA wk h) fun h=>?_;obtain⟨⟨v15,v16⟩,g17,h⟩:=AB h;refine⟨_,_,some [],Ib g17,?_⟩;exact AA wk h
 rintro⟨v12,v13⟩ h;(conv=>whnf);refine .go ?_;refine sJ h ?_ ?_<;>intro h
 ·cases h;exact⟨rfl,rfl⟩
 obtain⟨⟨v18,v19⟩,g20,h⟩:=AB h;refine⟨_,_,some [],EI g20,?_⟩;obtain⟨⟨v21,v22⟩,g23,h⟩:=AB h;refine⟨_,_,some [],EI g23,?_⟩;revert h;refine AD (fun v24=>⟨yr 0 0::dd 105 (yb v24::dd 10 ([])),yB [AV.d (D.l 3 JAB.toD v13.attrs),AV.d (D.b v13.next.V6),AV.d (D.u64 v13.next.Hi),AV.d (D.u64 v13.next.Lo),y6 v18,AV.d (D.l 4 JAD.toD v13.gone6),y6 v21,AV.d (D.l 4 JAD.toD v13.new6)]::nn 117 ([])⟩) ?_ ?_
 ·intro k25 h;(conv=>whnf);refine .inl (dO ?_);refine sJ h ?_ ?_<;>intro h
  ·(conv=>whnf);refine cO ?_;exact AA wk h
  refine sJ h ?_ ?_<;>intro h
  ·(conv=>whnf);refine cO ?_;exact AA wk h
  refine⟨v21.length,X10 _,?_⟩;refine sJ h ?_ ?_<;>intro h
  ·refine⟨v13.new6.length,X10 _,?_⟩;refine sJ h ?_ ?_<;>intro h
   ·(conv=>whnf);refine cO ?_;exact AA wk h
   refine⟨v18.length,X10 _,?_⟩;refine⟨v13.gone6.length,X10 _,?_⟩;refine⟨_,rfl,?_⟩;refine sJ h ?_ ?_<;>intro h
   ·(conv=>whnf);refine cO ?_;exact AA wk h
   refine⟨v21.length,X10 _,?_⟩;refine⟨v13.new6.length,X10 _,?_⟩;refine⟨_,rfl,?_⟩;(conv=>whnf);refine cO ?_;exact AA wk h
  refine⟨v18.length,X10 _,?_⟩;refine⟨v13.gone6.length,X10 _,?_⟩;refine⟨_,rfl,?_⟩;refine sJ h ?_ ?_<;>intro h
  ·(conv=>whnf);refine cO ?_;exact AA wk h
  refine⟨v21.length,X10 _,?_⟩;refine⟨v13.new6.length,X10 _,?_⟩;refine⟨_,rfl,?_⟩;(conv=>whnf);refine cO ?_;exact AA wk h
 rintro v24 h;(conv=>whnf);refine .go ?_;refine sJ h ?_ ?_<;>intro h
 ·cases h;exact⟨rfl,rfl⟩
 obtain⟨⟨v26,v27⟩,g28,h⟩:=AB h;refine⟨_,_,some [],H4 g28,?_⟩;cases h;exact⟨rfl,rfl⟩
theorem IX {wl:Prop} {a0:JAB} {a1:Int} {r:Bool×Int} (h:Cm a0 a1=some r):CallsOK (Wl wl) Tryz.prog 136 [AV.d (JAB.toD a0),.ref 0 0] [.box [.d (D.i a1)]] (.d (D.b r.1)) [.box [.d (D.i r.2)]]:=by
 refine oK Tryz.f136 ⟨rfl,?_⟩;unfold Cm at h;cases h;exact⟨rfl,rfl⟩
theorem Bw {wl:Prop} {a0:List JAB} {a1c0:Int} {r:Int×Int} (h:Ac a0 a1c0=some r):CallsOK (Wl wl) Tryz.prog 174 [AV.d (D.l 3 JAB.toD a0),AV.fn 136 [.ref 0 0]] [.box [.d (D.i a1c0)]] (.d (D.i r.1)) [.box [.d (D.i r.2)]]:=by
 refine oK Tryz.f174 ⟨rfl,?_⟩;unfold Ac at h;refine⟨a0.length,X10 _,?_⟩;revert h;refine AD (fun v1=>⟨dd 19 ([]),yB [yi v1]::nn 19 ([])⟩) ?_ ?_
 ·intro k2 h;revert h;refine AW 6 3 JAB.toD rfl (fun i3 v4=>⟨y0 a0::AV.fn 136 [yr 0 0]::dd 4 (y0 a0::yi (a0.length:Int)::yi (i3:Int)::dd 10 ([])),yB [yi v4]::nn 19 ([])⟩) ?_ ?_ ?_
  ·exact wk
  ·rintro v4 K5 h;(conv=>whnf);refine .go ?_;(conv=>whnf);refine A9 CP ?_;exact AA wk h
  rintro next6 i3 x7 v4 K5 hii3 hxi3 hwi3 h hK8;(conv=>whnf);refine .go ?_;(conv=>whnf);refine A8 (CC hii3) ?_;(conv=>whnf);refine .go ?_;refine⟨A4 (f:=JAB.toD) hii3,JAB.toD x7,hxi3,rfl,?_⟩;obtain⟨⟨v9,v10⟩,g11,h⟩:=AB h;refine⟨_,_,some [],IX g11,?_⟩;(conv=>whnf);refine .go ?_;refine sJ h ?_ ?_<;>intro h
  ·cases h;exact⟨rfl,rfl⟩
  refine⟨_,hwi3,?_⟩;exact hK8 _ _ wk h
 rintro v1 h;cases h;exact⟨rfl,rfl⟩
theorem Bg {wl:Prop} {a0:List JAB} {a1c0:Int} {r:Bool×Int} (h:Aa a0 a1c0=some r):CallsOK (Wl wl) Tryz.prog 135 [AV.d (D.l 3 JAB.toD a0),AV.fn 136 [.ref 0 0]] [.box [.d (D.i a1c0)]] (.d (D.b r.1)) [.box [.d (D.i r.2)]]:=by
 refine oK Tryz.f135 ⟨rfl,?_⟩;unfold Aa at h;obtain⟨⟨v1,v2⟩,g3,h⟩:=AB h;refine⟨_,_,some [],Bw g3,?_⟩;cases h;exact⟨rfl,rfl⟩
theorem EX {wl:Prop} {a0:JAG} {a1:Int} {r:Bool×JAG} (h:Bq a0 a1=some r):CallsOK (Wl wl) Tryz.prog 98 [.ref 0 0,AV.d (D.i a1)] [.box (JAG.av a0)] (.d (D.b r.1)) [.box (JAG.av r.2)]:=by
 refine oK Tryz.f98 ⟨rfl,?_⟩;unfold Bq at h;obtain⟨⟨v1,v2⟩,g3,h⟩:=AB h;refine⟨_,_,some [],Bg g3,?_⟩;cases h;exact⟨rfl,rfl⟩
theorem O3 {wl:Prop} {a0:List UInt8} {r:Bool×Bool} (h:GR a0=some r):CallsOK (Wl wl) Tryz.prog 56 [AV.d (D.l 1 D.u8 a0)] [] (.tup [.d (D.b r.1),.d (D.b r.2)]) []:=by
 refine oK Tryz.f56 ⟨rfl,?_⟩;unfold GR at h;obtain⟨_,g1,h⟩:=AB h;refine⟨Vf g1 (X29 rfl),D.u8 (0:UInt8),rfl,(List.map D.u8 (List.replicate (Int.toNat 4) (0:UInt8))),List.map_replicate.symm,?_⟩;refine⟨rfl,?_⟩;obtain⟨v2,g3,h⟩:=AB h;refine⟨_,_,none,Jl g3,?_⟩;(conv=>whnf);refine .go ?_;refine sJ h ?_ ?_<;>intro h
 ·cases h;exact⟨rfl,rfl⟩
 revert h;refine AD (fun v4=>⟨dd 48 (yb v4::[]),nn 49 ([])⟩) ?_ ?_
 ·intro k5 h;obtain⟨⟨v6,v7⟩,g8,h⟩:=AB h;refine⟨_,_,some [],(Gk g8).box1 ⟨.inr ⟨_,rfl,rfl⟩,.inl rfl,.inl rfl,.inl rfl,.inr ⟨_,rfl,rfl⟩,.inr ⟨_,rfl,rfl⟩,.inr ⟨_,rfl,rfl⟩,.inr ⟨_,rfl,rfl⟩,True.intro⟩,?_⟩;refine sJ h (fun h=>AA wk h) fun h=>?_;refine⟨a0.length,X10 _,?_⟩;obtain⟨v9,g10,h⟩:=AB h;refine⟨CH (f:=D.u8) g10,_,CJ (f:=D.u8) g10,?_⟩;obtain⟨v11,g12,h⟩:=AB h;refine⟨_,_,some [],GQ g12,?_⟩;refine⟨_,rfl,?_⟩;refine sJ h (fun h=>AA wk h) fun h=>?_;refine⟨v7.attrs.length,X10 _,?_⟩;refine sJ h (fun h=>AA wk h) fun h=>?_;obtain⟨⟨v13,v14⟩,g15,h⟩:=AB h;refine⟨_,_,some [],EX g15,?_⟩;refine sJ h (fun h=>AA wk h) fun h=>?_;obtain⟨v16,g17,h⟩:=AB h;refine⟨_,_,some [],GQ g17,?_⟩;refine sJ h (fun h=>AA wk h) fun h=>?_;refine⟨v14.gone6.length,X10 _,?_⟩;exact AA wk h
 rintro v4 h;(conv=>whnf);refine .go ?_;refine sJ h ?_ ?_<;>intro h
 ·cases h;exact⟨rfl,rfl⟩
 cases h;exact⟨rfl,rfl⟩
end Go.AX.Q33
end
section
namespace Go.AX.Q33
open Go Go.AX Go.Proofs
set_option maxRecDepth 100000
set_option maxHeartbeats 4000000
set_option linter.unusedVariables false
theorem C4 {wl:Prop} {a0:List (List JAD)} {r:(List JAD)} (h:Ao a0=some r):CallsOK (Wl wl) Tryz.prog 99 [AV.d (D.l 1 (D.l 4 JAD.toD) a0)] [] (AV.own 0 (List.map JAD.toD r).length) [.row 73 4 (List.map JAD.toD r) .no]:=by
 refine okx 27 Tryz.f99 (by kernel_rfl) (by kernel_rfl) ⟨rfl,?_⟩;unfold Ao at h;refine⟨a0.length,X10 _,?_⟩;revert h;refine AD (fun v1=>⟨AV.d (D.l 1 (D.l 4 JAD.toD) a0)::X::X::yi v1::dd 32 ([]),nn 63 ([])⟩) ?_ ?_
 ·intro k2 h;revert h;refine AW 9 1 (D.l 4 JAD.toD) rfl (fun i3 v4=>⟨AV.d (D.l 1 (D.l 4 JAD.toD) a0)::X::X::yi v4::dd 5 (AV.d (D.l 1 (D.l 4 JAD.toD) a0)::yi (a0.length:Int)::yi (i3:Int)::dd 24 ([])),nn 63 ([])⟩) ?_ ?_ ?_
  ·exact wk
  ·rintro v4 K5 h;(conv=>whnf);refine .go ?_;(conv=>whnf);refine A9 CP ?_;exact AA wk h
  rintro next6 i3 x7 v4 K5 hii3 hxi3 hwi3 h hK8;(conv=>whnf);refine .go ?_;(conv=>whnf);refine A8 (CC hii3) ?_;(conv=>whnf);refine .go ?_;refine⟨A4 (f:=(D.l 4 JAD.toD)) hii3,(D.l 4 JAD.toD) x7,hxi3,rfl,?_⟩;refine⟨x7.length,X10 _,?_⟩;refine⟨_,rfl,?_⟩;(conv=>whnf);refine .go ?_;refine sJ h ?_ ?_<;>intro h
  ·exact nomatch h
  refine⟨_,hwi3,?_⟩;exact hK8 _ _ wk h
 rintro v1 h;revert h;refine AD (fun v9=>⟨AV.d (D.l 1 (D.l 4 JAD.toD) a0)::dd 23 (yO 35 JAD.toD v9::dd 11 ([])),nn 35 (yR 73 4 JAD.toD v9::nn 27 ([]))⟩) ?_ ?_
 ·intro k10 h;(conv=>whnf);refine inl Tryz.f137 36 (by kernel_rfl) (by kernel_rfl) ⟨rfl,?_⟩;(conv=>whnf);refine .go ?_;refine sJ h ?_ ?_<;>intro h
  ·exact nomatch h
  refine⟨_,rfl,?_⟩;refine⟨_,rfl,?_⟩;revert h;refine AD (fun v11=>⟨yO 61 JAD.toD v11::dd 26 ([]),nn 61 (yR 73 4 JAD.toD v11::N::[])⟩) ?_ ?_
  ·intro k12 h;refine sJ h (fun h=>?_) fun h=>AA wk h;(conv=>whnf);refine .inr ?_;refine⟨⟨rfl,rfl⟩,?_⟩;obtain⟨_,g13,h⟩:=AB h;refine⟨bu g13 (X29 rfl),JAD.toD (⟨(⟨false,(0:UInt64),(0:UInt64)⟩:Addr),0⟩:JAD),rfl,(List.map JAD.toD (List.replicate (Int.toNat (AK (v1 - (AK (0 - 0))))) (⟨(⟨false,(0:UInt64),(0:UInt64)⟩:Addr),0⟩:JAD))),List.map_replicate.symm,?_⟩;(conv=>whnf);refine .inr (.inr ?_);obtain⟨v14,g15,h⟩:=AB h;refine⟨TJ (f:=JAD.toD) g15,rfl,_,BI (f:=JAD.toD) g15,?_⟩;exact AA wk h
  rintro v11 h;exact AA (.swap 61 35 rfl rfl rfl wk) h
 rintro v9 h;refine⟨a0.length,X10 _,?_⟩;revert h;refine AD (fun v16=>⟨dd 6 (yO 35 JAD.toD v16::dd 29 ([])),nn 35 (yR 73 4 JAD.toD v16::nn 27 ([]))⟩) ?_ ?_
 ·intro k17 h;revert h;refine AW 25 1 (D.l 4 JAD.toD) rfl (fun i18 v19=>⟨dd 6 (yO 35 JAD.toD v19::dd 18 (AV.d (D.l 1 (D.l 4 JAD.toD) a0)::yi (a0.length:Int)::yi (i18:Int)::dd 8 ([]))),nn 35 (yR 73 4 JAD.toD v19::nn 27 ([]))⟩) ?_ ?_ ?_
  ·exact wk
  ·rintro v19 K20 h;(conv=>whnf);refine .go ?_;(conv=>whnf);refine A9 CP ?_;exact AA wk h
  rintro next21 i18 x22 v19 K20 hii18 hxi18 hwi18 h hK23;(conv=>whnf);refine .go ?_;(conv=>whnf);refine A8 (CC hii18) ?_;(conv=>whnf);refine .go ?_;refine⟨A4 (f:=(D.l 4 JAD.toD)) hii18,(D.l 4 JAD.toD) x22,hxi18,rfl,?_⟩;obtain⟨v24,g25,h⟩:=AB h;refine⟨rfl,Ae (f:=JAD.toD) (g:=JAD.toD) g25,_,Af (f:=JAD.toD) g25,?_⟩;refine⟨_,hwi18,?_⟩;exact hK23 _ _ wk h
 rintro v16 h;(conv=>whnf);refine .inl ?_;(conv=>whnf);refine .inr ?_;cases h;exact⟨rfl,rfl⟩
theorem IE {wl:Prop} {a0:JAB} {r:Bool} (h:Bf a0=some r):CallsOK (Wl wl) Tryz.prog 147 [AV.d (JAB.toD a0)] [] (.d (D.b r)) []:=by
 refine oK Tryz.f147 ⟨rfl,?_⟩;unfold Bf at h;revert h;refine AD (fun v1=>⟨X::X::yb v1::dd 14 ([]),nn 17 ([])⟩) ?_ ?_
 ·intro k2 h;refine sJ h ?_ ?_<;>intro h
  ·refine⟨_,rfl,?_⟩;exact AA wk h
  refine sJ h (fun h=>?_) fun h=>AA wk h;refine⟨_,rfl,?_⟩;exact AA wk h
 rintro v1 h;cases h;exact⟨rfl,rfl⟩
theorem Bt {wl:Prop} {a0:List JAB} {r:Int} (h:Aj a0=some r):CallsOK (Wl wl) Tryz.prog 174 [AV.d (D.l 3 JAB.toD a0),AV.fn 147 []] [] (.d (D.i r)) []:=by
 refine oK Tryz.f174 ⟨rfl,?_⟩;unfold Aj at h;refine⟨a0.length,X10 _,?_⟩;revert h;refine AD (fun _=>⟨dd 19 ([]),nn 19 ([])⟩) ?_ ?_
 ·intro k1 h;revert h;refine AW 6 3 JAB.toD rfl (fun i2 _=>⟨y0 a0::AV.fn 147 []::dd 4 (y0 a0::yi (a0.length:Int)::yi (i2:Int)::dd 10 ([])),nn 19 ([])⟩) ?_ ?_ ?_
  ·exact wk
  ·rintro _ K3 h;(conv=>whnf);refine .go ?_;(conv=>whnf);refine A9 CP ?_;exact AA wk h
  rintro next4 i2 x5 _ K3 hii2 hxi2 hwi2 h hK6;(conv=>whnf);refine .go ?_;(conv=>whnf);refine A8 (CC hii2) ?_;(conv=>whnf);refine .go ?_;refine⟨A4 (f:=JAB.toD) hii2,JAB.toD x5,hxi2,rfl,?_⟩;obtain⟨v7,g8,h⟩:=AB h;refine⟨_,_,some [],IE g8,?_⟩;(conv=>whnf);refine .go ?_;refine sJ h ?_ ?_<;>intro h
  ·cases h;exact⟨rfl,rfl⟩
  refine⟨_,hwi2,?_⟩;exact hK6 _ _ wk h
 rintro _ h;cases h;exact⟨rfl,rfl⟩
theorem Be {wl:Prop} {a0:List JAB} {r:Bool} (h:AZ a0=some r):CallsOK (Wl wl) Tryz.prog 135 [AV.d (D.l 3 JAB.toD a0),AV.fn 147 []] [] (.d (D.b r)) []:=by
 refine oK Tryz.f135 ⟨rfl,?_⟩;unfold AZ at h;obtain⟨v1,g2,h⟩:=AB h;refine⟨_,_,some [],Bt g2,?_⟩;cases h;exact⟨rfl,rfl⟩
theorem Iq {wl:Prop} {a0:JAG} {a1:JAF} {a2:Int} {r:Bool×JAG} (h:DD a0 a1 a2=some r):CallsOK (Wl wl) Tryz.prog 102 [.ref 0 0,AV.d (JAF.toD a1),AV.d (D.i a2)] [.box (JAG.av a0)] (.d (D.b r.1)) [.box (JAG.av r.2)]:=by
 refine oK Tryz.f102 ⟨rfl,?_⟩;unfold DD at h;revert h;refine AD (fun (v1,v2)=>⟨dd 6 (yb v1::dd 35 ([])),yB (JAG.av v2)::nn 42 ([])⟩) ?_ ?_
 ·intro k3 h;refine sJ h (fun h=>AA wk h) fun h=>?_;obtain⟨v4,g5,h⟩:=AB h;refine⟨_,_,some [],Be g5,?_⟩;refine sJ h (fun h=>AA wk h) fun h=>?_;obtain⟨⟨v6,v7⟩,g8,h⟩:=AB h;refine⟨_,_,some [],EX g8,?_⟩;refine sJ h (fun h=>AA wk h) fun h=>?_;obtain⟨⟨v9,v10⟩,g11,h⟩:=AB h;refine⟨_,_,some [],EX g11,?_⟩;refine sJ h (fun h=>AA wk h) fun h=>?_;refine⟨v10.new4.length,X10 _,?_⟩;exact sJ h (fun h=>AA wk h) fun h=>AA wk h
 rintro⟨v1,v2⟩ h;cases h;exact⟨rfl,rfl⟩
theorem NT {wl:Prop} {a0:List UInt8} {r:JAH×Int} (h:FA a0=some r):CallsOK (Wl wl) Tryz.prog 57 [AV.d (D.l 1 D.u8 a0)] [] (.tup [.d (JAH.toD r.1),.d (D.i r.2)]) []:=by
 refine oK Tryz.f57 ⟨rfl,?_⟩;unfold FA at h;obtain⟨⟨v1,v2⟩,g3,h⟩:=AB h;refine⟨_,_,some [],(Gk g3).box1 ⟨.inr ⟨_,rfl,rfl⟩,.inl rfl,.inl rfl,.inl rfl,.inr ⟨_,rfl,rfl⟩,.inr ⟨_,rfl,rfl⟩,.inr ⟨_,rfl,rfl⟩,.inr ⟨_,rfl,rfl⟩,True.intro⟩,?_⟩;(conv=>whnf);refine .go ?_;refine sJ h ?_ ?_<;>intro h
 ·cases h;exact⟨rfl,rfl⟩
 (conv=>whnf);refine .inl (dO ?_);refine⟨rfl,?_⟩;obtain⟨v4,g5,h⟩:=AB h;refine⟨_,_,C4 g5,.inr rfl,?_⟩;obtain⟨v6,g7,h⟩:=AB h;refine⟨_,_,LK g7,.inl rfl,?_⟩;(conv=>whnf);refine cO ?_;(conv=>whnf);refine .inl (dO ?_);refine⟨rfl,?_⟩;obtain⟨v8,g9,h⟩:=AB h;refine⟨_,_,C4 g9,.inr rfl,?_⟩;(conv=>whnf);refine cO ?_;refine⟨v8.length,by first | exact X10 _ | rfl | (simp only[X10];omega),?_⟩;(conv=>whnf);refine .go ?_;refine sJ h ?_ ?_<;>intro h
 ·refine⟨rfl,?_⟩;cases h;exact⟨rfl,rfl⟩
 obtain⟨⟨v10,v11⟩,g12,h⟩:=AB h;refine⟨_,_,some [],H4 g12,?_⟩;obtain⟨⟨v13,v14⟩,g15,h⟩:=AB h;refine⟨_,_,some [],Iq g15,?_⟩;(conv=>whnf);refine .go ?_;refine sJ h ?_ ?_<;>intro h
 ·refine⟨rfl,?_⟩;obtain⟨v16,g17,h⟩:=AB h;refine⟨rfl,Ae (f:=JAD.toD) (g:=JAD.toD) g17,_,Af (f:=JAD.toD) g17,?_⟩;refine⟨rfl,?_⟩;cases h;exact⟨rfl,rfl⟩
 refine⟨v14.new6.length,X10 _,?_⟩;revert h;refine AD (fun v18=>⟨X::X::yr 2 0::X::X::yr 5 0::yO 37 JAD.toD v8::yr 7 0::dd 68 ([]),N::N::yB JAH.zv::N::N::yB [yO 25 JAD.toD v4,AV.d (D.i v6.Origin),AV.d (D.l 2 JAC.toD v6.Path),AV.d (D.b v6.Next.V6),AV.d (D.u64 v6.Next.Hi),AV.d (D.u64 v6.Next.Lo),AV.d (D.i v6.MED),AV.d (D.i v6.Pref),AV.d (D.i v6.OTC),AV.d (D.l 2 JAA.toD v6.Communities),AV.d (D.l 3 JAE.toD v6.JAE),AV.d (D.l 3 JAB.toD v6.Other),AV.d (D.nil 4)]::N::yB (JAF.av v18)::nn 17 (yR 73 4 JAD.toD v4::nn 11 (yR 73 4 JAD.toD v8::nn 38 ([])))⟩) ?_ ?_
 ·intro k19 h;exact sJ h (fun h=>AA wk h) fun h=>AA wk h
 rintro v18 h;refine⟨rfl,?_⟩;refine⟨rfl,?_⟩;cases h;exact⟨rfl,rfl⟩
theorem LJ {wl:Prop} {a0:List UInt8} {a1:Int} {a2:Int} {r:(List JAJ)} (h:ER a0 a1 a2=some r):CallsOK (Wl wl) Tryz.prog 29 [AV.d (D.l 1 D.u8 a0),AV.d (D.i a1),AV.d (D.i a2)] [] (.d (D.l 24 JAJ.toD r)) []:=by
 refine oK Tryz.f29 ⟨rfl,?_⟩;unfold ER at h;obtain⟨⟨v1,v2⟩,g3,h⟩:=AB h;refine⟨_,_,some [],O3 g3,?_⟩;(conv=>whnf);refine .go ?_;refine sJ h ?_ ?_<;>intro h
 ·revert h;refine AD (fun v4=>⟨dd 9 (yr 9 0::dd 29 ([])),nn 9 (yA2 5 a1 0 v4 0 false (0:UInt64) (0:UInt64) 0 0 0 0 false false false 0::nn 29 ([]))⟩) ?_ ?_
  ·intro k5 h;exact sJ h (fun h=>AA wk h) fun h=>AA wk h
  rintro v4 h;(conv=>whnf);refine .inl ?_;(conv=>whnf);refine .inl ?_;refine⟨rfl,?_⟩;cases h;exact⟨rfl,rfl⟩
 obtain⟨⟨v6,v7⟩,g8,h⟩:=AB h;refine⟨_,_,some [],NT g8,?_⟩;(conv=>whnf);refine .go ?_;refine sJ h ?_ ?_<;>intro h
 ·(conv=>whnf);refine .inl ?_;(conv=>whnf);refine .inl ?_;refine⟨rfl,?_⟩;cases h;exact⟨rfl,rfl⟩
 (conv=>whnf);refine .inl ?_;(conv=>whnf);refine .inl ?_;refine⟨rfl,?_⟩;cases h;exact⟨rfl,rfl⟩
theorem Hj {wl:Prop} {a0:JAL} {a1:JAL} {a2:JAK} {a3:Int} {a4:Int} {r:(List JAJ)} (h:Di a0 a1 a2 a3 a4=some r):CallsOK (Wl wl) Tryz.prog 13 [AV.d (JAL.toD a0),AV.d (JAL.toD a1),AV.d (JAK.toD a2),AV.d (D.i a3),AV.d (D.i a4)] [] (.d (D.l 24 JAJ.toD r)) []:=by
 refine oK Tryz.f13 ⟨rfl,?_⟩;unfold Di at h;(conv=>whnf);refine .go ?_;(conv=>whnf);refine .go ?_;refine sJ h ?_ ?_<;>intro h
 ·(conv=>whnf);refine .inl ?_;(conv=>whnf);refine .inl ?_;refine⟨rfl,?_⟩;cases h;exact⟨rfl,rfl⟩
 (conv=>whnf);refine .go ?_;refine sJ h ?_ ?_<;>intro h
 ·obtain⟨v1,g2,h⟩:=AB h;refine⟨_,_,some [],GK g2,?_⟩;revert h;refine AD (fun v3=>⟨X::X::X::yi a3::yi a4::dd 6 (yi v3::dd 37 ([])),nn 49 ([])⟩) ?_ ?_
  ·intro k4 h;exact sJ h (fun h=>AA wk h) fun h=>AA wk h
  rintro v3 h;(conv=>whnf);refine .inl ?_;(conv=>whnf);refine .inl ?_;refine⟨rfl,?_⟩;cases h;exact⟨rfl,rfl⟩
 revert h;refine AD (fun _=>⟨dd 49 ([]),nn 49 ([])⟩) ?_ ?_
 ·intro k5 h;refine sJ h (fun h=>?_) fun h=>AA wk h;(conv=>whnf);refine .go ?_;refine sJ h (fun h=>?_) fun h=>AA wk h;obtain⟨v6,g7,h⟩:=AB h;refine⟨_,_,some [],LJ g7,?_⟩;cases h;exact⟨rfl,rfl⟩
 rintro _ h;(conv=>whnf);refine .inl ?_;(conv=>whnf);refine .inl ?_;refine⟨rfl,?_⟩;cases h;exact⟨rfl,rfl⟩
theorem HQ {wl:Prop} {a0:RIB} {a1:Int} {r:Bool} (h:Ee a0 a1=some r):CallsOK (Wl wl) Tryz.prog 16 [AV.d (RIB.toD a0),AV.d (D.i a1)] [] (.d (D.b r)) []:=by
 refine oK Tryz.f16 ⟨rfl,?_⟩;unfold Ee at h;revert h;refine AD (fun v1=>⟨dd 4 (yb v1::dd 9 ([])),nn 14 ([])⟩) ?_ ?_
 ·intro k2 h;exact sJ h (fun h=>AA wk h) fun h=>AA wk h
 rintro v1 h;cases h;exact⟨rfl,rfl⟩
theorem JQ {wl:Prop}  {r:Bool} (h:Gl=some r):CallsOK (Wl wl) Tryz.prog 6 [] [] (.d (D.b r)) []:=by
 refine oK Tryz.f6 ⟨rfl,?_⟩;unfold Gl at h;obtain⟨v1,g2,h⟩:=AB h;refine⟨_,_,some [],Hj g2,?_⟩;revert h;refine AD (fun v3=>⟨yb v3::dd 42 ([]),nn 43 ([])⟩) ?_ ?_
 ·intro k4 h;obtain⟨v5,g6,h⟩:=AB h;refine⟨_,_,some [],GK g6,?_⟩;refine sJ h (fun h=>?_) fun h=>AA wk h;refine⟨v1.length,X10 _,?_⟩;refine sJ h (fun h=>?_) fun h=>AA wk h;obtain⟨v7,g8,h⟩:=AB h;refine⟨AL (f:=JAJ.toD) g8,JAJ.toD v7,AM (f:=JAJ.toD) g8,rfl,?_⟩;refine sJ h (fun h=>?_) fun h=>AA wk h;obtain⟨v9,g10,h⟩:=AB h;refine⟨AL (f:=JAJ.toD) g10,JAJ.toD v9,AM (f:=JAJ.toD) g10,rfl,?_⟩;refine sJ h (fun h=>?_) fun h=>AA wk h;obtain⟨v11,g12,h⟩:=AB h;refine⟨AL (f:=JAJ.toD) g12,JAJ.toD v11,AM (f:=JAJ.toD) g12,rfl,?_⟩;refine sJ h (fun h=>?_) fun h=>AA wk h;obtain⟨v13,g14,h⟩:=AB h;refine⟨_,_,some [],HQ g14,?_⟩;exact AA wk h
 rintro v3 h;cases h;exact⟨rfl,rfl⟩
theorem UX {wl:Prop} {a0:List Int} {r:JAI} (h:IQ a0=some r):CallsOK (Wl wl) Tryz.prog 7 [AV.d (D.l 1 D.i a0)] [] (.ref 0 0) [.box (JAI.av r)]:=by
 refine oK Tryz.f7 ⟨rfl,?_⟩;unfold IQ at h;cases h;exact⟨rfl,rfl⟩
theorem Hv {wl:Prop} {a0:Int} {a1:Int} {r:Int} (h:FC a0 a1=some r):CallsOK (Wl wl) Tryz.prog 15 [AV.d (D.i a0),AV.d (D.i a1)] [] (.d (D.i r)) []:=by
 refine oK Tryz.f15 ⟨rfl,?_⟩;unfold FC at h;obtain⟨_,g1,h⟩:=AB h;refine⟨EJ g1,_,rfl,?_⟩;revert h;refine AD (fun v2=>⟨dd 5 (yi v2::dd 9 ([])),nn 15 ([])⟩) ?_ ?_
 ·intro k3 h;refine sJ h (fun h=>?_) fun h=>AA wk h;refine⟨_,rfl,?_⟩;exact AA wk h
 rintro v2 h;cases h;exact⟨rfl,rfl⟩
theorem AN {wl:Prop} {a0:JAI} {a1:Int} {r:Int×JAI} (h:AO a0 a1=some r):CallsOK (Wl wl) Tryz.prog 24 [.ref 0 0,AV.d (D.i a1)] [.box (JAI.av a0)] (.d (D.i r.1)) [.box (JAI.av r.2)]:=by
 refine oK Tryz.f24 ⟨rfl,?_⟩;unfold AO at h;(conv=>whnf);refine .inl (dO ?_);refine⟨a0.L.length,X10 _,?_⟩;(conv=>whnf);refine cO ?_;(conv=>whnf);refine .go ?_;refine sJ h ?_ ?_<;>intro h
 ·cases h;exact⟨rfl,rfl⟩
 refine⟨_,rfl,?_⟩;(conv=>whnf);refine .inl (dO ?_);refine⟨_,rfl,?_⟩;obtain⟨v1,g2,h⟩:=AB h;refine⟨AL (f:=D.i) g2,D.i v1,AM (f:=D.i) g2,rfl,?_⟩;obtain⟨v3,g4,h⟩:=AB h;refine⟨_,_,Hv g4,.inl rfl,?_⟩;(conv=>whnf);refine cO ?_;cases h;exact⟨rfl,rfl⟩
theorem Hy {wl:Prop} {a0:JAI} {a1:Int} {r:Open×JAI} (h:D1 a0 a1=some r):CallsOK (Wl wl) Tryz.prog 25 [.ref 0 0,AV.d (D.i a1)] [.box (JAI.av a0)] (.d (Open.toD r.1)) [.box (JAI.av r.2)]:=by
 refine oK Tryz.f25 ⟨rfl,?_⟩;unfold D1 at h;(conv=>whnf);refine .inl (dO ?_);obtain⟨⟨v1,v2⟩,g3,h⟩:=AB h;refine⟨_,_,AN g3,.inl rfl,?_⟩;refine⟨_,rfl,?_⟩;obtain⟨⟨v4,v5⟩,g6,h⟩:=AB h;refine⟨_,_,AN g6,.inl rfl,?_⟩;obtain⟨v7,g8,h⟩:=AB h;refine⟨rfl,AL (f:=D.i) g8,?_⟩;refine⟨rfl,D.i v7,(AM (f:=D.i) g8),?_⟩;obtain⟨⟨v9,v10⟩,g11,h⟩:=AB h;refine⟨_,_,AN g11,.inl rfl,?_⟩;refine⟨_,rfl,?_⟩;obtain⟨⟨v12,v13⟩,g14,h⟩:=AB h;refine⟨_,_,AN g14,.inl rfl,?_⟩;obtain⟨v15,g16,h⟩:=AB h;refine⟨rfl,AL (f:=D.i) g16,?_⟩;refine⟨rfl,D.i v15,(AM (f:=D.i) g16),?_⟩;obtain⟨⟨v17,v18⟩,g19,h⟩:=AB h;refine⟨_,_,AN g19,.inl rfl,?_⟩;(conv=>whnf);refine cO ?_;cases h;exact⟨rfl,rfl⟩
theorem IS {wl:Prop} {a0:JAI} {r:JAL×JAI} (h:EW a0=some r):CallsOK (Wl wl) Tryz.prog 8 [.ref 0 0] [.box (JAI.av a0)] (.d (JAL.toD r.1)) [.box (JAI.av r.2)]:=by
 refine oK Tryz.f8 ⟨rfl,?_⟩;unfold EW at h;(conv=>whnf);refine .inl (dO ?_);obtain⟨⟨v1,v2⟩,g3,h⟩:=AB h;refine⟨_,_,AN g3,.inl rfl,?_⟩;obtain⟨v4,g5,h⟩:=AB h;refine⟨rfl,AL (f:=D.i) g5,?_⟩;refine⟨rfl,D.i v4,(AM (f:=D.i) g5),?_⟩;obtain⟨⟨v6,v7⟩,g8,h⟩:=AB h;refine⟨_,_,Hy g8,.inl rfl,?_⟩;obtain⟨⟨v9,v10⟩,g11,h⟩:=AB h;refine⟨_,_,Hy g11,.inl rfl,?_⟩;(conv=>whnf);refine cO ?_;cases h;exact⟨rfl,rfl⟩
theorem HS {wl:Prop} {a0:Int} {r:Int} (h:Dv a0=some r):CallsOK (Wl wl) Tryz.prog 107 [AV.d (D.i a0)] [] (.d (D.i r)) []:=by
 refine oK Tryz.f107 ⟨rfl,?_⟩;unfold Dv at h;(conv=>whnf);refine .go ?_;revert h;refine AD (fun v1=>⟨X::X::X::yi a0::yb v1::dd 10 ([]),nn 15 ([])⟩) ?_ ?_
 ·intro k2 h;refine sJ h (fun h=>AA wk h) fun h=>?_;revert h;refine AD (fun v3=>⟨X::X::X::yi a0::yb v3::dd 10 ([]),nn 15 ([])⟩) ?_ ?_
  ·intro k4 h;refine sJ h (fun h=>AA wk h) fun h=>?_;revert h;refine AD (fun v5=>⟨X::X::X::yi a0::yb v5::dd 10 ([]),nn 15 ([])⟩) ?_ ?_
   ·intro k6 h;exact sJ h (fun h=>AA wk h) fun h=>AA wk h
   rintro v5 h;exact AA wk h
  rintro v3 h;exact AA wk h
 rintro v1 h;(conv=>whnf);refine .go ?_;refine sJ h ?_ ?_<;>intro h
 ·cases h;exact⟨rfl,rfl⟩
 (conv=>whnf);refine .go ?_;refine sJ h ?_ ?_<;>intro h
 ·cases h;exact⟨rfl,rfl⟩
 revert h;refine AD (fun v7=>⟨dd 11 (yb v7::X::X::X::[]),nn 15 ([])⟩) ?_ ?_
 ·intro k8 h;refine sJ h (fun h=>AA wk h) fun h=>?_;revert h;refine AD (fun v9=>⟨dd 11 (yb v9::X::X::X::[]),nn 15 ([])⟩) ?_ ?_
  ·intro k10 h;exact sJ h (fun h=>AA wk h) fun h=>AA wk h
  rintro v9 h;exact AA wk h
 rintro v7 h;(conv=>whnf);refine .go ?_;refine sJ h ?_ ?_<;>intro h
 ·cases h;exact⟨rfl,rfl⟩
 cases h;exact⟨rfl,rfl⟩
theorem F6 {wl:Prop} {a0:Int} {r:Bool} (h:BQ a0=some r):CallsOK (Wl wl) Tryz.prog 106 [AV.d (D.i a0)] [] (.d (D.b r)) []:=by
 refine oK Tryz.f106 ⟨rfl,?_⟩;unfold BQ at h;revert h;refine AD (fun v1=>⟨X::X::yb v1::dd 11 ([]),nn 14 ([])⟩) ?_ ?_
 ·intro k2 h;obtain⟨v3,g4,h⟩:=AB h;refine⟨_,_,some [],HS g4,?_⟩;refine sJ h (fun h=>?_) fun h=>AA wk h;exact sJ h (fun h=>AA wk h) fun h=>AA wk h
 rintro v1 h;cases h;exact⟨rfl,rfl⟩
theorem Jd {wl:Prop} {a0:List JAC} {r:Bool} (h:C5 a0=some r):CallsOK (Wl wl) Tryz.prog 121 [AV.d (D.l 2 JAC.toD a0)] [] (.d (D.b r)) []:=by
 refine oK Tryz.f121 ⟨rfl,?_⟩;unfold C5 at h;refine⟨a0.length,X10 _,?_⟩;revert h;refine AD (fun v1=>⟨X::X::X::yi v1::dd 74 ([]),nn 78 ([])⟩) ?_ ?_
 ·intro k2 h;revert h;refine AW 8 2 JAC.toD rfl (fun i3 v4=>⟨y2 a0::X::X::yi v4::dd 4 (y2 a0::yi (a0.length:Int)::yi (i3:Int)::dd 67 ([])),nn 78 ([])⟩) ?_ ?_ ?_
  ·exact wk
  ·rintro v4 K5 h;(conv=>whnf);refine .go ?_;(conv=>whnf);refine A9 CP ?_;exact AA wk h
  rintro next6 i3 x7 v4 K5 hii3 hxi3 hwi3 h hK8;(conv=>whnf);refine .go ?_;(conv=>whnf);refine A8 (CC hii3) ?_;revert h;refine AD (fun _=>⟨y2 a0::X::X::yi (AK (v4 + (x7.ASNs.length:Int)))::dd 4 (y2 a0::yi (a0.length:Int)::yi (i3:Int)::dd 67 ([])),nn 78 ([])⟩) ?_ ?_
  ·intro k9 h;refine⟨A4 (f:=JAC.toD) hii3,JAC.toD x7,hxi3,rfl,?_⟩;revert h;refine AD (fun v10=>⟨y2 a0::X::X::yi v4::X::yr 5 0::X::X::y2 a0::yi (a0.length:Int)::yi (i3:Int)::dd 25 (yb v10::dd 41 ([])),nn 5 (yB (JAC.av x7)::nn 72 ([]))⟩) ?_ ?_
   ·intro k11 h;refine⟨x7.ASNs.length,X10 _,?_⟩;refine sJ h (fun h=>AA wk h) fun h=>?_;refine sJ h (fun h=>?_) fun h=>AA wk h;refine sJ h (fun h=>?_) fun h=>AA wk h;refine⟨_,rfl,?_⟩;obtain⟨v12,g13,h⟩:=AB h;refine⟨AL (f:=JAC.toD) g13,JAC.toD v12,AM (f:=JAC.toD) g13,rfl,?_⟩;exact AA wk h
   rintro v10 h;(conv=>whnf);refine .go ?_;refine sJ h ?_ ?_<;>intro h
   ·cases h;exact⟨rfl,rfl⟩
   refine⟨x7.ASNs.length,X10 _,?_⟩;revert h;refine AD (fun _=>⟨y2 a0::X::X::yi v4::X::yr 5 0::X::X::y2 a0::yi (a0.length:Int)::yi (i3:Int)::dd 67 ([]),nn 5 (yB (JAC.av x7)::nn 72 ([]))⟩) ?_ ?_
   ·intro k14 h;revert h;refine AW 38 1 D.i rfl (fun i15 _=>⟨y2 a0::X::X::yi v4::X::yr 5 0::X::X::y2 a0::yi (a0.length:Int)::yi (i3:Int)::dd 27 (AV.d (D.l 1 D.i x7.ASNs)::yi (x7.ASNs.length:Int)::yi (i15:Int)::dd 37 ([])),nn 5 (yB (JAC.av x7)::nn 72 ([]))⟩) ?_ ?_ ?_
    ·exact wk
    ·rintro _ K16 h;(conv=>whnf);refine .go ?_;(conv=>whnf);refine A9 CP ?_;exact AA wk h
    rintro next17 i15 x18 _ K16 hii15 hxi15 hwi15 h hK19;(conv=>whnf);refine .go ?_;(conv=>whnf);refine A8 (CC hii15) ?_;(conv=>whnf);refine .go ?_;refine⟨A4 (f:=D.i) hii15,D.i x18,hxi15,rfl,?_⟩;revert h;refine AD (fun v20=>⟨y2 a0::X::X::yi v4::X::yr 5 0::X::X::y2 a0::yi (a0.length:Int)::yi (i3:Int)::dd 27 (AV.d (D.l 1 D.i x7.ASNs)::yi (x7.ASNs.length:Int)::yi (i15:Int)::dd 27 (yb v20::dd 9 ([]))),nn 5 (yB (JAC.av x7)::nn 72 ([]))⟩) ?_ ?_
    ·intro k21 h;refine sJ h (fun h=>AA wk h) fun h=>?_;refine sJ h (fun h=>AA wk h) fun h=>?_;refine sJ h (fun h=>?_) fun h=>AA wk h;refine sJ h (fun h=>?_) fun h=>AA wk h;refine⟨_,rfl,?_⟩;obtain⟨v22,g23,h⟩:=AB h;refine⟨AL (f:=D.i) g23,D.i v22,AM (f:=D.i) g23,rfl,?_⟩;exact AA wk h
    rintro v20 h;(conv=>whnf);refine .go ?_;refine sJ h ?_ ?_<;>intro h
    ·cases h;exact⟨rfl,rfl⟩
    refine⟨_,hwi15,?_⟩;exact hK19 _ _ wk h
   rintro _ h;refine⟨x7.ASNs.length,X10 _,?_⟩;refine⟨_,rfl,?_⟩;exact AA wk h
  rintro _ h;refine⟨_,hwi3,?_⟩;exact hK8 _ _ wk h
 rintro v1 h;cases h;exact⟨rfl,rfl⟩
theorem HT {wl:Prop} {a0:Addr} {r:Bool} (h:Dw a0=some r):CallsOK (Wl wl) Tryz.prog 122 [AV.d (Addr.toD a0)] [] (.d (D.b r)) []:=by
 refine oK Tryz.f122 ⟨rfl,?_⟩;unfold Dw at h;revert h;refine AD (fun v1=>⟨X::X::yb v1::dd 12 ([]),nn 15 ([])⟩) ?_ ?_
 ·intro k2 h;refine sJ h (fun h=>AA wk h) fun h=>?_;exact sJ h (fun h=>AA wk h) fun h=>AA wk h
 rintro v1 h;cases h;exact⟨rfl,rfl⟩
theorem Jb {wl:Prop} {a0:JAA} {r:Bool} (h:EG a0=some r):CallsOK (Wl wl) Tryz.prog 157 [AV.d (JAA.toD a0)] [] (.d (D.b r)) []:=by
 refine oK Tryz.f157 ⟨rfl,?_⟩;unfold EG at h;revert h;refine AD (fun v1=>⟨X::X::yb v1::dd 18 ([]),nn 21 ([])⟩) ?_ ?_
 ·intro k2 h;refine sJ h (fun h=>?_) fun h=>AA wk h;refine sJ h (fun h=>?_) fun h=>AA wk h;exact sJ h (fun h=>AA wk h) fun h=>AA wk h
 rintro v1 h;cases h;exact⟨rfl,rfl⟩
theorem Kv {wl:Prop} {a0:JAA} {a1:JAA} {r:Bool} (h:EM a0 a1=some r):CallsOK (Wl wl) Tryz.prog 158 [AV.d (JAA.toD a0),AV.d (JAA.toD a1)] [] (.d (D.b r)) []:=by
 refine oK Tryz.f158 ⟨rfl,?_⟩;unfold EM at h;revert h;refine AD (fun v1=>⟨dd 4 (yb v1::dd 19 ([])),nn 24 ([])⟩) ?_ ?_
 ·intro k2 h;refine sJ h (fun h=>AA wk h) fun h=>?_;exact sJ h (fun h=>AA wk h) fun h=>AA wk h
 rintro v1 h;cases h;exact⟨rfl,rfl⟩
end Go.AX.Q33
end
section
namespace Go.AX.Q33
open Go Go.AX Go.Proofs
set_option maxRecDepth 100000
set_option maxHeartbeats 4000000
set_option linter.unusedVariables false
theorem HO {wl:Prop} {a0:List JAA} {r:Bool} (h:Du a0=some r):CallsOK (Wl wl) Tryz.prog 123 [AV.d (D.l 2 JAA.toD a0)] [] (.d (D.b r)) []:=by
 refine oK Tryz.f123 ⟨rfl,?_⟩;unfold Du at h;refine⟨a0.length,X10 _,?_⟩;revert h;refine AD (fun _=>⟨y4 a0::dd 32 ([]),nn 33 ([])⟩) ?_ ?_
 ·intro k1 h;revert h;refine AW 5 2 JAA.toD rfl (fun i2 _=>⟨y4 a0::dd 4 (y4 a0::yi (a0.length:Int)::yi (i2:Int)::dd 25 ([])),nn 33 ([])⟩) ?_ ?_ ?_
  ·exact wk
  ·rintro _ K3 h;(conv=>whnf);refine .go ?_;(conv=>whnf);refine A9 CP ?_;exact AA wk h
  rintro next4 i2 x5 _ K3 hii2 hxi2 hwi2 h hK6;(conv=>whnf);refine .go ?_;(conv=>whnf);refine A8 (CC hii2) ?_;(conv=>whnf);refine .go ?_;refine⟨A4 (f:=JAA.toD) hii2,JAA.toD x5,hxi2,rfl,?_⟩;revert h;refine AD (fun v7=>⟨y4 a0::dd 4 (y4 a0::yi (a0.length:Int)::yi (i2:Int)::dd 20 (yb v7::dd 4 ([]))),nn 33 ([])⟩) ?_ ?_
  ·intro k8 h;(conv=>whnf);refine .inl (dO ?_);obtain⟨v9,g10,h⟩:=AB h;refine⟨_,_,Jb g10,.inl rfl,?_⟩;refine sJ h ?_ ?_<;>intro h
   ·(conv=>whnf);refine cO ?_;exact AA wk h
   refine sJ h ?_ ?_<;>intro h
   ·refine⟨_,rfl,?_⟩;obtain⟨v11,g12,h⟩:=AB h;refine⟨AL (f:=JAA.toD) g12,JAA.toD v11,AM (f:=JAA.toD) g12,rfl,?_⟩;obtain⟨v13,g14,h⟩:=AB h;refine⟨_,_,Kv g14,.inl rfl,?_⟩;(conv=>whnf);refine cO ?_;exact AA wk h
   (conv=>whnf);refine cO ?_;exact AA wk h
  rintro v7 h;(conv=>whnf);refine .go ?_;refine sJ h ?_ ?_<;>intro h
  ·cases h;exact⟨rfl,rfl⟩
  refine⟨_,hwi2,?_⟩;exact hK6 _ _ wk h
 rintro _ h;refine⟨a0.length,X10 _,?_⟩;cases h;exact⟨rfl,rfl⟩
theorem Gv {wl:Prop} {a0:JAE} {r:Bool} (h:By a0=some r):CallsOK (Wl wl) Tryz.prog 159 [AV.d (JAE.toD a0)] [] (.d (D.b r)) []:=by
 refine oK Tryz.f159 ⟨rfl,?_⟩;unfold By at h;revert h;refine AD (fun v1=>⟨X::X::yb v1::dd 28 ([]),nn 31 ([])⟩) ?_ ?_
 ·intro k2 h;refine sJ h (fun h=>?_) fun h=>AA wk h;refine sJ h (fun h=>?_) fun h=>AA wk h;refine sJ h (fun h=>?_) fun h=>AA wk h;refine sJ h (fun h=>?_) fun h=>AA wk h;exact sJ h (fun h=>AA wk h) fun h=>AA wk h
 rintro v1 h;cases h;exact⟨rfl,rfl⟩
theorem HJ {wl:Prop} {a0:JAE} {a1:JAE} {r:Bool} (h:Bm a0 a1=some r):CallsOK (Wl wl) Tryz.prog 160 [AV.d (JAE.toD a0),AV.d (JAE.toD a1)] [] (.d (D.b r)) []:=by
 refine oK Tryz.f160 ⟨rfl,?_⟩;unfold Bm at h;revert h;refine AD (fun v1=>⟨dd 4 (yb v1::dd 33 ([])),nn 38 ([])⟩) ?_ ?_
 ·intro k2 h;refine sJ h (fun h=>AA wk h) fun h=>?_;refine sJ h (fun h=>?_) fun h=>AA wk h;refine sJ h (fun h=>AA wk h) fun h=>?_;exact sJ h (fun h=>AA wk h) fun h=>AA wk h
 rintro v1 h;cases h;exact⟨rfl,rfl⟩
theorem E6 {wl:Prop} {a0:List JAE} {r:Bool} (h:BY a0=some r):CallsOK (Wl wl) Tryz.prog 124 [AV.d (D.l 3 JAE.toD a0)] [] (.d (D.b r)) []:=by
 refine oK Tryz.f124 ⟨rfl,?_⟩;unfold BY at h;refine⟨a0.length,X10 _,?_⟩;revert h;refine AD (fun _=>⟨y5 a0::dd 32 ([]),nn 33 ([])⟩) ?_ ?_
 ·intro k1 h;revert h;refine AW 5 3 JAE.toD rfl (fun i2 _=>⟨y5 a0::dd 4 (y5 a0::yi (a0.length:Int)::yi (i2:Int)::dd 25 ([])),nn 33 ([])⟩) ?_ ?_ ?_
  ·exact wk
  ·rintro _ K3 h;(conv=>whnf);refine .go ?_;(conv=>whnf);refine A9 CP ?_;exact AA wk h
  rintro next4 i2 x5 _ K3 hii2 hxi2 hwi2 h hK6;(conv=>whnf);refine .go ?_;(conv=>whnf);refine A8 (CC hii2) ?_;(conv=>whnf);refine .go ?_;refine⟨A4 (f:=JAE.toD) hii2,JAE.toD x5,hxi2,rfl,?_⟩;revert h;refine AD (fun v7=>⟨y5 a0::dd 4 (y5 a0::yi (a0.length:Int)::yi (i2:Int)::dd 20 (yb v7::dd 4 ([]))),nn 33 ([])⟩) ?_ ?_
  ·intro k8 h;(conv=>whnf);refine .inl (dO ?_);obtain⟨v9,g10,h⟩:=AB h;refine⟨_,_,Gv g10,.inl rfl,?_⟩;refine sJ h ?_ ?_<;>intro h
   ·(conv=>whnf);refine cO ?_;exact AA wk h
   refine sJ h ?_ ?_<;>intro h
   ·refine⟨_,rfl,?_⟩;obtain⟨v11,g12,h⟩:=AB h;refine⟨AL (f:=JAE.toD) g12,JAE.toD v11,AM (f:=JAE.toD) g12,rfl,?_⟩;obtain⟨v13,g14,h⟩:=AB h;refine⟨_,_,HJ g14,.inl rfl,?_⟩;(conv=>whnf);refine cO ?_;exact AA wk h
   (conv=>whnf);refine cO ?_;exact AA wk h
  rintro v7 h;(conv=>whnf);refine .go ?_;refine sJ h ?_ ?_<;>intro h
  ·cases h;exact⟨rfl,rfl⟩
  refine⟨_,hwi2,?_⟩;exact hK6 _ _ wk h
 rintro _ h;refine⟨a0.length,X10 _,?_⟩;cases h;exact⟨rfl,rfl⟩
theorem J8 {wl:Prop} {a0:JAF} {r:Bool} (h:FU a0=some r):CallsOK (Wl wl) Tryz.prog 77 [AV.d (JAF.toD a0)] [] (.d (D.b r)) []:=by
 refine oK Tryz.f77 ⟨rfl,?_⟩;unfold FU at h;refine⟨a0.Other.length,X10 _,?_⟩;revert h;refine AD (fun _=>⟨X::yr 1 0::dd 122 ([]),N::yB (JAF.av a0)::nn 122 ([])⟩) ?_ ?_
 ·intro k1 h;revert h;refine AW 6 3 JAB.toD rfl (fun i2 _=>⟨X::yr 1 0::dd 4 (AV.d (D.l 3 JAB.toD a0.Other)::yi (a0.Other.length:Int)::yi (i2:Int)::dd 115 ([])),N::yB (JAF.av a0)::nn 122 ([])⟩) ?_ ?_ ?_
  ·exact wk
  ·rintro _ K3 h;(conv=>whnf);refine .go ?_;(conv=>whnf);refine A9 CP ?_;exact AA wk h
  rintro next4 i2 x5 _ K3 hii2 hxi2 hwi2 h hK6;(conv=>whnf);refine .go ?_;(conv=>whnf);refine A8 (CC hii2) ?_;(conv=>whnf);refine .go ?_;refine⟨A4 (f:=JAB.toD) hii2,JAB.toD x5,hxi2,rfl,?_⟩;revert h;refine AD (fun v7=>⟨X::yr 1 0::dd 4 (AV.d (D.l 3 JAB.toD a0.Other)::yi (a0.Other.length:Int)::yi (i2:Int)::dd 44 (yb v7::dd 70 ([]))),N::yB (JAF.av a0)::nn 122 ([])⟩) ?_ ?_
  ·intro k8 h;(conv=>whnf);refine .inl (dO ?_);refine sJ h ?_ ?_<;>intro h
   ·(conv=>whnf);refine cO ?_;exact AA wk h
   refine sJ h ?_ ?_<;>intro h
   ·(conv=>whnf);refine cO ?_;exact AA wk h
   obtain⟨v9,g10,h⟩:=AB h;refine⟨_,_,F6 g10,.inl rfl,?_⟩;refine sJ h ?_ ?_<;>intro h
   ·(conv=>whnf);refine cO ?_;exact AA wk h
   refine sJ h ?_ ?_<;>intro h
   ·(conv=>whnf);refine cO ?_;exact AA wk h
   refine⟨x5.Data.length,X10 _,?_⟩;refine sJ h ?_ ?_<;>intro h
   ·(conv=>whnf);refine cO ?_;exact AA wk h
   refine sJ h ?_ ?_<;>intro h
   ·refine⟨_,rfl,?_⟩;obtain⟨v11,g12,h⟩:=AB h;refine⟨AL (f:=JAB.toD) g12,JAB.toD v11,AM (f:=JAB.toD) g12,rfl,?_⟩;(conv=>whnf);refine cO ?_;exact AA wk h
   (conv=>whnf);refine cO ?_;exact AA wk h
  rintro v7 h;(conv=>whnf);refine .go ?_;refine sJ h ?_ ?_<;>intro h
  ·cases h;exact⟨rfl,rfl⟩
  refine⟨_,hwi2,?_⟩;exact hK6 _ _ wk h
 rintro _ h;revert h;refine AD (fun v13=>⟨X::X::yb v13::dd 121 ([]),nn 124 ([])⟩) ?_ ?_
 ·intro k14 h;refine sJ h (fun h=>?_) fun h=>AA wk h;refine sJ h (fun h=>?_) fun h=>AA wk h;obtain⟨v15,g16,h⟩:=AB h;refine⟨_,_,some [],Jd g16,?_⟩;refine sJ h (fun h=>?_) fun h=>AA wk h;obtain⟨v17,g18,h⟩:=AB h;refine⟨_,_,some [],HT g18,?_⟩;refine sJ h (fun h=>?_) fun h=>AA wk h;refine sJ h (fun h=>?_) fun h=>AA wk h;refine sJ h (fun h=>?_) fun h=>AA wk h;refine sJ h (fun h=>?_) fun h=>AA wk h;refine sJ h (fun h=>?_) fun h=>AA wk h;refine sJ h ?_ ?_<;>intro h
  ·obtain⟨v19,g20,h⟩:=AB h;refine⟨_,_,some [],HO g20,?_⟩;refine sJ h (fun h=>?_) fun h=>AA wk h;obtain⟨v21,g22,h⟩:=AB h;refine⟨_,_,some [],E6 g22,?_⟩;refine sJ h (fun h=>?_) fun h=>AA wk h;refine⟨a0.Other.length,X10 _,?_⟩;exact AA wk h
  refine sJ h (fun h=>?_) fun h=>AA wk h;refine sJ h (fun h=>?_) fun h=>AA wk h;obtain⟨v23,g24,h⟩:=AB h;refine⟨_,_,some [],HO g24,?_⟩;refine sJ h (fun h=>?_) fun h=>AA wk h;obtain⟨v25,g26,h⟩:=AB h;refine⟨_,_,some [],E6 g26,?_⟩;refine sJ h (fun h=>?_) fun h=>AA wk h;refine⟨a0.Other.length,X10 _,?_⟩;exact AA wk h
 rintro v13 h;cases h;exact⟨rfl,rfl⟩
theorem F2 {wl:Prop} {a0:Addr} {r:(List UInt8)} (h:CG a0=some r):CallsOK (Wl wl) Tryz.prog 81 [AV.d (Addr.toD a0)] [] (AV.own 0 (List.map D.u8 r).length) [.row 5 1 (List.map D.u8 r) .no]:=by
 refine oK Tryz.f81 ⟨rfl,?_⟩;unfold CG at h;obtain⟨v1,g2,h⟩:=AB h;refine⟨_,_,some [],HT g2,?_⟩;(conv=>whnf);refine .go ?_;refine sJ h ?_ ?_<;>intro h
 ·(conv=>whnf);refine .inr ⟨X29 rfl,5,?_⟩;cases h;exact⟨rfl,rfl⟩
 revert h;refine AD (fun v3=>⟨X::yr 1 0::X::yi v3::dd 31 ([]),N::yB (Addr.av a0)::nn 33 ([])⟩) ?_ ?_
 ·intro k4 h;exact sJ h (fun h=>AA wk h) fun h=>AA wk h
 rintro v3 h;refine⟨_,rfl,?_⟩;revert h;refine AD (fun v5=>⟨dd 4 (yO 4 D.u8 v5::dd 30 ([])),nn 4 (yR 5 1 D.u8 v5::nn 30 ([]))⟩) ?_ ?_
 ·intro k6 h;revert h;refine Ab (fun (v7,v8)=>⟨X::yr 1 0::X::X::yO 4 D.u8 v8::yi v7::dd 29 ([]),N::yB (Addr.av a0)::N::N::yR 5 1 D.u8 v8::nn 30 ([])⟩) ?_ ?_
  ·exact wk
  rintro next9 ⟨v7,v8⟩ K10 h hK11;(conv=>whnf);refine .go ?_;refine sJ h (fun h=>?_) fun h=>AA wk h;(conv=>whnf);refine .go ?_;revert h;refine AD (fun v12=>⟨X::yr 1 0::X::X::yO 4 D.u8 v8::yi v7::yu v12::dd 28 ([]),N::yB (Addr.av a0)::N::N::yR 5 1 D.u8 v8::nn 30 ([])⟩) ?_ ?_
  ·intro k13 h;exact sJ h (fun h=>AA wk h) fun h=>AA wk h
  rintro v12 h;refine⟨by decide,_,rfl,?_⟩;refine⟨_,As _,?_⟩;refine⟨_,As _,?_⟩;refine⟨Int.natCast_nonneg _,_,SX v12 _,?_⟩;refine⟨_,Bc _,?_⟩;refine⟨rfl,?_⟩;obtain⟨v14,g15,h⟩:=AB h;refine⟨rfl,Ae (f:=D.u8) (g:=D.u8) g15,_,Af (f:=D.u8) g15,?_⟩;refine⟨_,rfl,?_⟩;exact hK11 _ _ wk h
 rintro v5 h;(conv=>whnf);refine .inl ?_;(conv=>whnf);refine .inr ?_;cases h;exact⟨rfl,rfl⟩
theorem Cb {wl:Prop} {a0:Int} {a1:Int} {r:(List UInt8)} (h:CX a0 a1=some r):CallsOK (Wl wl) Tryz.prog 125 [AV.d (D.i a0),AV.d (D.i a1)] [] (.d (D.l 1 D.u8 r)) []:=by
 refine oK Tryz.f125 ⟨rfl,?_⟩;unfold CX at h;refine⟨_,rfl,?_⟩;revert h;refine AD (fun v1=>⟨dd 5 (yO 5 D.u8 v1::dd 17 ([])),nn 5 (yR 5 1 D.u8 v1::nn 17 ([]))⟩) ?_ ?_
 ·intro k2 h;revert h;refine Ab (fun (v3,v4)=>⟨yi a0::dd 4 (yO 5 D.u8 v4::yi v3::dd 16 ([])),nn 5 (yR 5 1 D.u8 v4::nn 17 ([]))⟩) ?_ ?_
  ·exact wk
  rintro next5 ⟨v3,v4⟩ K6 h hK7;(conv=>whnf);refine .go ?_;refine sJ h (fun h=>?_) fun h=>AA wk h;(conv=>whnf);refine .go ?_;refine⟨_,As _,?_⟩;refine⟨_,As _,?_⟩;refine⟨Int.natCast_nonneg _,_,rfl,?_⟩;refine⟨_,Bc _,?_⟩;refine⟨rfl,?_⟩;obtain⟨v8,g9,h⟩:=AB h;refine⟨rfl,Ae (f:=D.u8) (g:=D.u8) g9,_,Af (f:=D.u8) g9,?_⟩;refine⟨_,rfl,?_⟩;exact hK7 _ _ wk h
 rintro v1 h;(conv=>whnf);refine .inl ?_;(conv=>whnf);refine .inl ?_;refine⟨rfl,?_⟩;cases h;exact⟨rfl,rfl⟩
end Go.AX.Q33
end
section
namespace Go.AX.Q33
open Go Go.AX Go.Proofs
set_option maxRecDepth 100000
set_option maxHeartbeats 4000000
set_option linter.unusedVariables false
theorem QF {wl:Prop} {a0:JAF} {r:(List JAB)×Int} (h:GW a0=some r):CallsOK (Wl wl) Tryz.prog 78 [AV.d (JAF.toD a0)] [] (.tup [.d (D.l 3 JAB.toD r.1),.d (D.i r.2)]) []:=by
 refine oK Tryz.f78 ⟨rfl,?_⟩;unfold GW at h;obtain⟨v1,g2,h⟩:=AB h;refine⟨_,_,some [],J8 g2,?_⟩;(conv=>whnf);refine .go ?_;refine sJ h ?_ ?_<;>intro h
 ·cases h;exact⟨rfl,rfl⟩
 revert h;refine AD (fun v3=>⟨X::yr 1 0::X::X::AV.own 4 (List.map JAB.toD []).length::AV.mp 24::dd 189 ([]),N::yB (JAF.av a0)::N::N::some (OB.row 144 3 (List.map JAB.toD []) .no)::nn 19 (some (OB.map 3 22 (BS D.i (D.l 1 D.u8) v3))::nn 170 ([]))⟩) ?_ ?_
 ·intro k4 h;refine sJ h (fun h=>?_) fun h=>AA wk h;refine⟨_,Bc _,?_⟩;(conv=>whnf);refine .inl ?_;refine⟨rfl,?_⟩;refine⟨_,D6 (ek:=D.i) (ev:=(D.l 1 D.u8)) (l:=[]) (k:=1) (v:=([(Dh a0.Origin)]:List UInt8)) B0,?_⟩;exact AA wk h
 rintro v3 h;revert h;refine AD (fun v5=>⟨X::yr 1 0::X::X::AV.own 4 (List.map JAB.toD []).length::AV.mp 24::dd 35 (yb v5::dd 153 ([])),N::yB (JAF.av a0)::N::N::some (OB.row 144 3 (List.map JAB.toD []) .no)::nn 19 (some (OB.map 3 22 (BS D.i (D.l 1 D.u8) v3))::nn 170 ([]))⟩) ?_ ?_
 ·intro k6 h;refine sJ h (fun h=>AA wk h) fun h=>?_;refine⟨a0.Path.length,X10 _,?_⟩;exact AA wk h
 rintro v5 h;revert h;refine AD (fun v7=>⟨X::yr 1 0::X::X::AV.own 4 (List.map JAB.toD []).length::AV.mp 24::dd 189 ([]),N::yB (JAF.av a0)::N::N::some (OB.row 144 3 (List.map JAB.toD []) .no)::nn 19 (some (OB.map 3 22 (BS D.i (D.l 1 D.u8) v7))::nn 170 ([]))⟩) ?_ ?_
 ·intro k8 h;refine sJ h (fun h=>?_) fun h=>AA wk h;refine⟨a0.Path.length,X10 _,?_⟩;revert h;refine AD (fun v9=>⟨X::yr 1 0::X::X::AV.own 4 (List.map JAB.toD []).length::AV.mp 24::yO 42 D.u8 v9::dd 188 ([]),N::yB (JAF.av a0)::N::N::some (OB.row 144 3 (List.map JAB.toD []) .no)::nn 19 (some (OB.map 3 22 (BS D.i (D.l 1 D.u8) v3))::nn 17 (yR 5 1 D.u8 v9::nn 152 ([])))⟩) ?_ ?_
  ·intro k10 h;revert h;refine AW 44 2 JAC.toD rfl (fun i11 v12=>⟨X::yr 1 0::X::X::AV.own 4 (List.map JAB.toD []).length::AV.mp 24::yO 42 D.u8 v12::dd 37 (AV.d (D.l 2 JAC.toD a0.Path)::yi (a0.Path.length:Int)::yi (i11:Int)::dd 148 ([])),N::yB (JAF.av a0)::N::N::some (OB.row 144 3 (List.map JAB.toD []) .no)::nn 19 (some (OB.map 3 22 (BS D.i (D.l 1 D.u8) v3))::nn 17 (yR 5 1 D.u8 v12::nn 152 ([])))⟩) ?_ ?_ ?_
   ·exact wk
   ·rintro v12 K13 h;(conv=>whnf);refine .go ?_;(conv=>whnf);refine A9 CP ?_;exact AA wk h
   rintro next14 i11 x15 v12 K13 hii11 hxi11 hwi11 h hK16;(conv=>whnf);refine .go ?_;(conv=>whnf);refine A8 (CC hii11) ?_;revert h;refine AD (fun v17=>⟨X::yr 1 0::X::X::AV.own 4 (List.map JAB.toD []).length::AV.mp 24::yO 42 D.u8 v17::dd 37 (AV.d (D.l 2 JAC.toD a0.Path)::yi (a0.Path.length:Int)::yi (i11:Int)::dd 148 ([])),N::yB (JAF.av a0)::N::N::some (OB.row 144 3 (List.map JAB.toD []) .no)::nn 19 (some (OB.map 3 22 (BS D.i (D.l 1 D.u8) v3))::nn 17 (yR 5 1 D.u8 v17::nn 152 ([])))⟩) ?_ ?_
   ·intro k18 h;refine⟨A4 (f:=JAC.toD) hii11,JAC.toD x15,hxi11,rfl,?_⟩;revert h;refine AD (fun v19=>⟨X::yr 1 0::X::X::AV.own 4 (List.map JAB.toD []).length::AV.mp 24::yO 42 D.u8 v12::X::yr 8 0::yv v19::dd 34 (AV.d (D.l 2 JAC.toD a0.Path)::yi (a0.Path.length:Int)::yi (i11:Int)::dd 148 ([])),N::yB (JAF.av a0)::N::N::some (OB.row 144 3 (List.map JAB.toD []) .no)::N::N::N::yB (JAC.av x15)::nn 15 (some (OB.map 3 22 (BS D.i (D.l 1 D.u8) v3))::nn 17 (yR 5 1 D.u8 v12::nn 152 ([])))⟩) ?_ ?_
    ·intro k20 h;exact sJ h (fun h=>AA wk h) fun h=>AA wk h
    rintro v19 h;refine⟨x15.ASNs.length,X10 _,?_⟩;refine⟨_,Bc _,?_⟩;refine⟨rfl,?_⟩;obtain⟨v21,g22,h⟩:=AB h;refine⟨rfl,Ae (f:=D.u8) (g:=D.u8) g22,_,Af (f:=D.u8) g22,?_⟩;refine⟨x15.ASNs.length,X10 _,?_⟩;revert h;refine AD (fun v23=>⟨X::yr 1 0::X::X::AV.own 4 (List.map JAB.toD []).length::AV.mp 24::yO 42 D.u8 v23::dd 37 (AV.d (D.l 2 JAC.toD a0.Path)::yi (a0.Path.length:Int)::yi (i11:Int)::dd 148 ([])),N::yB (JAF.av a0)::N::N::some (OB.row 144 3 (List.map JAB.toD []) .no)::nn 19 (some (OB.map 3 22 (BS D.i (D.l 1 D.u8) v3))::nn 17 (yR 5 1 D.u8 v23::nn 152 ([])))⟩) ?_ ?_
    ·intro k24 h;revert h;refine AW 61 1 D.i rfl (fun i25 v26=>⟨X::yr 1 0::X::X::AV.own 4 (List.map JAB.toD []).length::AV.mp 24::yO 42 D.u8 v26::dd 37 (AV.d (D.l 2 JAC.toD a0.Path)::yi (a0.Path.length:Int)::yi (i11:Int)::dd 14 (AV.d (D.l 1 D.i x15.ASNs)::yi (x15.ASNs.length:Int)::yi (i25:Int)::dd 131 ([]))),N::yB (JAF.av a0)::N::N::some (OB.row 144 3 (List.map JAB.toD []) .no)::nn 19 (some (OB.map 3 22 (BS D.i (D.l 1 D.u8) v3))::nn 17 (yR 5 1 D.u8 v26::nn 152 ([])))⟩) ?_ ?_ ?_
     ·exact wk
     ·rintro v26 K27 h;(conv=>whnf);refine .go ?_;(conv=>whnf);refine A9 CP ?_;exact AA wk h
     rintro next28 i25 x29 v26 K27 hii25 hxi25 hwi25 h hK30;(conv=>whnf);refine .go ?_;(conv=>whnf);refine A8 (CC hii25) ?_;(conv=>whnf);refine .go ?_;refine⟨A4 (f:=D.i) hii25,D.i x29,hxi25,rfl,?_⟩;obtain⟨v31,g32,h⟩:=AB h;refine⟨_,_,some [],Cb g32,?_⟩;obtain⟨v33,g34,h⟩:=AB h;refine⟨rfl,Ae (f:=D.u8) (g:=D.u8) g34,_,Af (f:=D.u8) g34,?_⟩;refine⟨_,hwi25,?_⟩;exact hK30 _ _ wk h
    rintro v23 h;exact AA wk h
   rintro v17 h;refine⟨_,hwi11,?_⟩;exact hK16 _ _ wk h
  rintro v9 h;(conv=>whnf);refine .inl ?_;refine⟨rfl,?_⟩;refine⟨_,D6 (ek:=D.i) (ev:=(D.l 1 D.u8)) (l:=v3) (k:=2) (v:=v9) B0,?_⟩;exact AA wk h
 rintro v7 h;revert h;refine AD (fun v35=>⟨X::yr 1 0::X::X::AV.own 4 (List.map JAB.toD []).length::AV.mp 24::dd 78 (yb v35::dd 110 ([])),N::yB (JAF.av a0)::N::N::some (OB.row 144 3 (List.map JAB.toD []) .no)::nn 19 (some (OB.map 3 22 (BS D.i (D.l 1 D.u8) v7))::nn 170 ([]))⟩) ?_ ?_
 ·intro k36 h;exact sJ h (fun h=>AA wk h) fun h=>AA wk h
 rintro v35 h;revert h;refine AD (fun v37=>⟨X::yr 1 0::X::X::AV.own 4 (List.map JAB.toD []).length::AV.mp 24::dd 189 ([]),N::yB (JAF.av a0)::N::N::some (OB.row 144 3 (List.map JAB.toD []) .no)::nn 19 (some (OB.map 3 22 (BS D.i (D.l 1 D.u8) v37))::nn 170 ([]))⟩) ?_ ?_
 ·intro k38 h;refine sJ h (fun h=>?_) fun h=>AA wk h;obtain⟨v39,g40,h⟩:=AB h;refine⟨_,_,some [88],F2 g40,?_⟩;(conv=>whnf);refine .inl ?_;refine⟨rfl,?_⟩;refine⟨_,D6 (ek:=D.i) (ev:=(D.l 1 D.u8)) (l:=v7) (k:=3) (v:=v39) B0,?_⟩;exact AA wk h
 rintro v37 h;revert h;refine AD (fun v41=>⟨X::yr 1 0::X::X::AV.own 4 (List.map JAB.toD []).length::AV.mp 24::dd 189 ([]),N::yB (JAF.av a0)::N::N::some (OB.row 144 3 (List.map JAB.toD []) .no)::nn 19 (some (OB.map 3 22 (BS D.i (D.l 1 D.u8) v41))::nn 170 ([]))⟩) ?_ ?_
 ·intro k42 h;refine sJ h (fun h=>?_) fun h=>AA wk h;obtain⟨v43,g44,h⟩:=AB h;refine⟨_,_,some [],Cb g44,?_⟩;refine⟨_,D6 (ek:=D.i) (ev:=(D.l 1 D.u8)) (l:=v37) (k:=4) (v:=v43) B0,?_⟩;exact AA wk h
 rintro v41 h;revert h;refine AD (fun v45=>⟨X::yr 1 0::X::X::AV.own 4 (List.map JAB.toD []).length::AV.mp 24::dd 189 ([]),N::yB (JAF.av a0)::N::N::some (OB.row 144 3 (List.map JAB.toD []) .no)::nn 19 (some (OB.map 3 22 (BS D.i (D.l 1 D.u8) v45))::nn 170 ([]))⟩) ?_ ?_
 ·intro k46 h;refine sJ h (fun h=>?_) fun h=>AA wk h;obtain⟨v47,g48,h⟩:=AB h;refine⟨_,_,some [],Cb g48,?_⟩;refine⟨_,D6 (ek:=D.i) (ev:=(D.l 1 D.u8)) (l:=v41) (k:=5) (v:=v47) B0,?_⟩;exact AA wk h
 rintro v45 h;refine⟨a0.Communities.length,X10 _,?_⟩;revert h;refine AD (fun (v49,v50)=>⟨X::yr 1 0::X::X::AV.own 4 (List.map JAB.toD []).length::AV.mp 24::dd 189 ([]),N::yB (JAF.av a0)::N::N::some (OB.row 144 3 (List.map JAB.toD []) .no)::nn 19 (some (OB.amap 3 22 (BS D.i (D.l 1 D.u8) v49) (.int .i64 8) 112 (List.map D.u8 v50).length)::nn 87 (some (OB.row 5 1 (List.map D.u8 v50) .yes)::nn 82 ([])))⟩) ?_ ?_
 ·intro k51 h;obtain⟨_,g52,h⟩:=AB h;revert h;refine AW 104 2 JAA.toD rfl (fun i53 (v54,v55)=>⟨X::yr 1 0::X::X::AV.own 4 (List.map JAB.toD []).length::AV.mp 24::dd 98 (AV.d (D.l 2 JAA.toD a0.Communities)::yi (a0.Communities.length:Int)::yi (i53:Int)::dd 88 ([])),N::yB (JAF.av a0)::N::N::some (OB.row 144 3 (List.map JAB.toD []) .no)::nn 19 (some (OB.amap 3 22 (BS D.i (D.l 1 D.u8) v54) (.int .i64 8) 112 (List.map D.u8 v55).length)::nn 87 (some (OB.row 5 1 (List.map D.u8 v55) .yes)::nn 82 ([])))⟩) ?_ ?_ ?_
  ·exact (.mk rfl (And.intro (.refl _) (And.intro (.refl _) (And.intro (.refl _) (And.intro (.refl _) (And.intro (.refl _) (And.intro (.refl _) True.intro)))))) (And.intro ⟨_,rfl,And.intro ⟨rfl,.refl _⟩ (And.intro ⟨rfl,.refl _⟩ (And.intro ⟨rfl,.refl _⟩ (And.intro ⟨rfl,.refl _⟩ (And.intro ⟨rfl,.refl _⟩ (And.intro ⟨rfl,.refl _⟩ (And.intro ⟨rfl,.refl _⟩ (And.intro ⟨rfl,.refl _⟩ (And.intro ⟨rfl,.refl _⟩ (And.intro ⟨rfl,.refl _⟩ (And.intro ⟨rfl,.refl _⟩ (True.intro)))))))))))⟩ (And.intro (.inl ⟨_,rfl,⟨id,trivial⟩⟩) (And.intro (.inr ⟨.inl rfl,⟨_,OF B0 g52⟩,rfl,rfl,_,_,_,rfl⟩) (And.intro (.inr ⟨rfl,rfl,by decide⟩) (True.intro))))) rfl)
  ·rintro⟨v54,v55⟩ K56 h;(conv=>whnf);refine .go ?_;(conv=>whnf);refine A9 CP ?_;exact AA wk h
  rintro next57 i53 x58 ⟨v54,v55⟩ K56 hii53 hxi53 hwi53 h hK59;(conv=>whnf);refine .go ?_;(conv=>whnf);refine A8 (CC hii53) ?_;(conv=>whnf);refine .go ?_;refine⟨A4 (f:=JAA.toD) hii53,JAA.toD x58,hxi53,rfl,?_⟩;(conv=>whnf);refine .inl (dO ?_);(conv=>whnf);refine .inr ⟨rfl,rfl,⟨_,Dn (ek:=D.i) (ev:=(D.l 1 D.u8)) (l:=v54) (k:=8) B0⟩,rfl,?_⟩;obtain⟨v60,g61,h⟩:=AB h;refine⟨_,_,Cb g61,.inl rfl,?_⟩;obtain⟨v62,g63,h⟩:=AB h;refine⟨rfl,Ae (f:=D.u8) (g:=D.u8) g63,_,Af (f:=D.u8) g63,?_⟩;obtain⟨v64,g65,h⟩:=AB h;refine⟨_,_,Cb g65,.inl rfl,?_⟩;obtain⟨v66,g67,h⟩:=AB h;refine⟨rfl,Ae (f:=D.u8) (g:=D.u8) g67,_,Af (f:=D.u8) g67,?_⟩;(conv=>whnf);refine .inr ?_;refine⟨rfl,?_⟩;refine⟨_,D6 (ek:=D.i) (ev:=(D.l 1 D.u8)) (l:=v54) (k:=8) (v:=v66) B0,?_⟩;(conv=>whnf);refine cO ?_;refine⟨_,hwi53,?_⟩;exact hK59 _ _ wk h
 rintro⟨v49,v50⟩ h;refine⟨a0.JAE.length,X10 _,?_⟩;revert h;refine AD (fun (v68,v69)=>⟨X::yr 1 0::X::X::AV.own 4 (List.map JAB.toD []).length::AV.mp 24::dd 189 ([]),N::yB (JAF.av a0)::N::N::some (OB.row 144 3 (List.map JAB.toD []) .no)::nn 19 (some (OB.amap 3 22 (BS D.i (D.l 1 D.u8) v68) (.int .i64 32) 131 (List.map D.u8 v69).length)::nn 106 (some (OB.row 5 1 (List.map D.u8 v69) .yes)::nn 63 ([])))⟩) ?_ ?_
 ·intro k70 h;obtain⟨_,g71,h⟩:=AB h;revert h;refine AW 123 3 JAE.toD rfl (fun i72 (v73,v74)=>⟨X::yr 1 0::X::X::AV.own 4 (List.map JAB.toD []).length::AV.mp 24::dd 117 (AV.d (D.l 3 JAE.toD a0.JAE)::yi (a0.JAE.length:Int)::yi (i72:Int)::dd 69 ([])),N::yB (JAF.av a0)::N::N::some (OB.row 144 3 (List.map JAB.toD []) .no)::nn 19 (some (OB.amap 3 22 (BS D.i (D.l 1 D.u8) v73) (.int .i64 32) 131 (List.map D.u8 v74).length)::nn 106 (some (OB.row 5 1 (List.map D.u8 v74) .yes)::nn 63 ([])))⟩) ?_ ?_ ?_
  ·exact (.mk rfl (And.intro (.refl _) (And.intro (.refl _) (And.intro (.refl _) (And.intro (.refl _) (And.intro (.refl _) (And.intro (.refl _) True.intro)))))) (And.intro ⟨_,rfl,And.intro ⟨rfl,.refl _⟩ (And.intro ⟨rfl,.refl _⟩ (And.intro ⟨rfl,.refl _⟩ (And.intro ⟨rfl,.refl _⟩ (And.intro ⟨rfl,.refl _⟩ (And.intro ⟨rfl,.refl _⟩ (And.intro ⟨rfl,.refl _⟩ (And.intro ⟨rfl,.refl _⟩ (And.intro ⟨rfl,.refl _⟩ (And.intro ⟨rfl,.refl _⟩ (And.intro ⟨rfl,.refl _⟩ (True.intro)))))))))))⟩ (And.intro (.inl ⟨_,rfl,⟨id,trivial⟩⟩) (And.intro (.inr ⟨.inr ⟨_,_,_,rfl⟩,⟨_,OF B0 g71⟩,rfl,rfl,_,_,_,rfl⟩) (And.intro (.inr ⟨rfl,rfl,by decide⟩) (True.intro))))) rfl)
  ·rintro⟨v73,v74⟩ K75 h;(conv=>whnf);refine .go ?_;(conv=>whnf);refine A9 CP ?_;exact AA wk h
  rintro next76 i72 x77 ⟨v73,v74⟩ K75 hii72 hxi72 hwi72 h hK78;(conv=>whnf);refine .go ?_;(conv=>whnf);refine A8 (CC hii72) ?_;(conv=>whnf);refine .go ?_;refine⟨A4 (f:=JAE.toD) hii72,JAE.toD x77,hxi72,rfl,?_⟩;(conv=>whnf);refine .inl (dO ?_);(conv=>whnf);refine .inr ⟨rfl,rfl,⟨_,Dn (ek:=D.i) (ev:=(D.l 1 D.u8)) (l:=v73) (k:=32) B0⟩,rfl,?_⟩;obtain⟨v79,g80,h⟩:=AB h;refine⟨_,_,Cb g80,.inl rfl,?_⟩;obtain⟨v81,g82,h⟩:=AB h;refine⟨rfl,Ae (f:=D.u8) (g:=D.u8) g82,_,Af (f:=D.u8) g82,?_⟩;obtain⟨v83,g84,h⟩:=AB h;refine⟨_,_,Cb g84,.inl rfl,?_⟩;obtain⟨v85,g86,h⟩:=AB h;refine⟨rfl,Ae (f:=D.u8) (g:=D.u8) g86,_,Af (f:=D.u8) g86,?_⟩;obtain⟨v87,g88,h⟩:=AB h;refine⟨_,_,Cb g88,.inl rfl,?_⟩;obtain⟨v89,g90,h⟩:=AB h;refine⟨rfl,Ae (f:=D.u8) (g:=D.u8) g90,_,Af (f:=D.u8) g90,?_⟩;(conv=>whnf);refine .inr ?_;refine⟨rfl,?_⟩;refine⟨_,D6 (ek:=D.i) (ev:=(D.l 1 D.u8)) (l:=v73) (k:=32) (v:=v89) B0,?_⟩;(conv=>whnf);refine cO ?_;refine⟨_,hwi72,?_⟩;exact hK78 _ _ wk h
 rintro⟨v68,v69⟩ h;revert h;refine AD (fun v91=>⟨X::yr 1 0::X::X::AV.own 4 (List.map JAB.toD []).length::AV.mp 24::dd 189 ([]),N::yB (JAF.av a0)::N::N::some (OB.row 144 3 (List.map JAB.toD []) .no)::nn 19 (some (OB.map 3 22 (BS D.i (D.l 1 D.u8) v91))::nn 170 ([]))⟩) ?_ ?_
 ·intro k92 h;refine sJ h (fun h=>?_) fun h=>AA wk h;obtain⟨v93,g94,h⟩:=AB h;refine⟨_,_,some [],Cb g94,?_⟩;refine⟨_,D6 (ek:=D.i) (ev:=(D.l 1 D.u8)) (l:=v68) (k:=35) (v:=v93) B0,?_⟩;exact AA wk h
 rintro v91 h;revert h;refine AD (fun v95=>⟨dd 4 (yO 4 JAB.toD v95::dd 190 ([])),nn 4 (yR 144 3 JAB.toD v95::nn 190 ([]))⟩) ?_ ?_
 ·intro k96 h;revert h;refine Ab (fun (v97,v98)=>⟨X::yr 1 0::X::X::yO 4 JAB.toD v98::AV.mp 24::dd 146 (yi v97::dd 42 ([])),N::yB (JAF.av a0)::N::N::yR 144 3 JAB.toD v98::nn 19 (some (OB.map 3 22 (BS D.i (D.l 1 D.u8) v91))::nn 170 ([]))⟩) ?_ ?_
  ·exact wk
  rintro next99 ⟨v97,v98⟩ K100 h hK101;(conv=>whnf);refine .go ?_;refine sJ h (fun h=>?_) fun h=>AA wk h;revert h;refine AD (fun v102=>⟨X::yr 1 0::X::X::yO 4 JAB.toD v102::AV.mp 24::dd 146 (yi v97::dd 42 ([])),N::yB (JAF.av a0)::N::N::yR 144 3 JAB.toD v102::nn 19 (some (OB.map 3 22 (BS D.i (D.l 1 D.u8) v91))::nn 170 ([]))⟩) ?_ ?_
  ·intro k103 h;obtain⟨v104,g105,h⟩:=AB h;obtain⟨v106,g107,h⟩:=AB h;refine⟨_,Dn (ek:=D.i) (ev:=(D.l 1 D.u8)) (l:=v91) (k:=v97) B0,(D.l 1 D.u8) v104,Gz (z:=[]) rfl g105,v106,Za g107,?_⟩;revert h;refine AD (fun v108=>⟨X::yr 1 0::X::X::yO 4 JAB.toD v108::AV.mp 24::dd 10 (yi v97::dd 135 (yi v97::dd 42 ([]))),N::yB (JAF.av a0)::N::N::yR 144 3 JAB.toD v108::nn 19 (some (OB.map 3 22 (BS D.i (D.l 1 D.u8) v91))::nn 170 ([]))⟩) ?_ ?_
   ·intro k109 h;refine sJ h (fun h=>?_) fun h=>AA wk h;obtain⟨v110,g111,h⟩:=AB h;refine⟨_,_,some [],HS g111,?_⟩;obtain⟨_,g112,h⟩:=AB h;refine⟨DZ (g:=D.u8) g112,?_⟩;(conv=>whnf);refine .inl ?_;refine⟨rfl,?_⟩;refine⟨rfl,?_⟩;obtain⟨v113,g114,h⟩:=AB h;refine⟨rfl,Ae (f:=JAB.toD) (g:=JAB.toD) g114,_,Af (f:=JAB.toD) g114,?_⟩;exact AA wk h
   rintro v108 h;refine⟨a0.Other.length,X10 _,?_⟩;revert h;refine AD (fun v115=>⟨X::yr 1 0::X::X::yO 4 JAB.toD v115::AV.mp 24::dd 146 (yi v97::dd 42 ([])),N::yB (JAF.av a0)::N::N::yR 144 3 JAB.toD v115::nn 19 (some (OB.map 3 22 (BS D.i (D.l 1 D.u8) v91))::nn 170 ([]))⟩) ?_ ?_
   ·intro k116 h;revert h;refine AW 172 3 JAB.toD rfl (fun i117 v118=>⟨X::yr 1 0::X::X::yO 4 JAB.toD v118::AV.mp 24::dd 10 (yi v97::dd 135 (yi v97::dd 19 (AV.d (D.l 3 JAB.toD a0.Other)::yi (a0.Other.length:Int)::yi (i117:Int)::dd 20 ([])))),N::yB (JAF.av a0)::N::N::yR 144 3 JAB.toD v118::nn 19 (some (OB.map 3 22 (BS D.i (D.l 1 D.u8) v91))::nn 170 ([]))⟩) ?_ ?_ ?_
    ·exact wk
    ·rintro v118 K119 h;(conv=>whnf);refine .go ?_;(conv=>whnf);refine A9 CP ?_;exact AA wk h
    rintro next120 i117 x121 v118 K119 hii117 hxi117 hwi117 h hK122;(conv=>whnf);refine .go ?_;(conv=>whnf);refine A8 (CC hii117) ?_;(conv=>whnf);refine .go ?_;refine⟨A4 (f:=JAB.toD) hii117,JAB.toD x121,hxi117,rfl,?_⟩;revert h;refine AD (fun v123=>⟨X::yr 1 0::X::X::yO 4 JAB.toD v123::AV.mp 24::dd 10 (yi v97::dd 135 (yi v97::dd 19 (AV.d (D.l 3 JAB.toD a0.Other)::yi (a0.Other.length:Int)::yi (i117:Int)::dd 20 ([])))),N::yB (JAF.av a0)::N::N::yR 144 3 JAB.toD v123::nn 19 (some (OB.map 3 22 (BS D.i (D.l 1 D.u8) v91))::nn 170 ([]))⟩) ?_ ?_
    ·intro k124 h;refine sJ h (fun h=>?_) fun h=>AA wk h;(conv=>whnf);refine .inl (dO ?_);obtain⟨_,g125,h⟩:=AB h;refine⟨DZ (g:=D.u8) g125,?_⟩;(conv=>whnf);refine .inl ?_;refine⟨rfl,?_⟩;refine⟨rfl,?_⟩;obtain⟨v126,g127,h⟩:=AB h;refine⟨rfl,Ae (f:=JAB.toD) (g:=JAB.toD) g127,_,Af (f:=JAB.toD) g127,?_⟩;(conv=>whnf);refine cO ?_;exact AA wk h
    rintro v123 h;refine⟨_,hwi117,?_⟩;exact hK122 _ _ wk h
   rintro v115 h;exact AA wk h
  rintro v102 h;refine⟨_,rfl,?_⟩;exact hK101 _ _ wk h
 rintro v95 h;(conv=>whnf);refine .inl ?_;refine⟨rfl,?_⟩;cases h;exact⟨rfl,rfl⟩
theorem Fz {wl:Prop} {a0:List JAD} {a1:Bool} {r:(List UInt8)} (h:EE a0 a1=some r):CallsOK (Wl wl) Tryz.prog 79 [AV.d (D.l 4 JAD.toD a0),AV.d (D.b a1)] [] (.d (D.l 1 D.u8 r)) []:=by
 refine oK Tryz.f79 ⟨rfl,?_⟩;unfold EE at h;refine⟨a0.length,X10 _,?_⟩;revert h;refine AD (fun v1=>⟨dd 5 (yO 5 D.u8 v1::dd 30 ([])),nn 5 (yR 5 1 D.u8 v1::nn 30 ([]))⟩) ?_ ?_
 ·intro k2 h;revert h;refine AW 8 4 JAD.toD rfl (fun i3 v4=>⟨X::yb a1::X::X::X::yO 5 D.u8 v4::X::X::y6 a0::yi (a0.length:Int)::yi (i3:Int)::dd 25 ([]),nn 5 (yR 5 1 D.u8 v4::nn 30 ([]))⟩) ?_ ?_ ?_
  ·exact wk
  ·rintro v4 K5 h;(conv=>whnf);refine .go ?_;(conv=>whnf);refine A9 CP ?_;exact AA wk h
  rintro next6 i3 x7 v4 K5 hii3 hxi3 hwi3 h hK8;(conv=>whnf);refine .go ?_;(conv=>whnf);refine A8 (CC hii3) ?_;(conv=>whnf);refine .go ?_;refine⟨A4 (f:=JAD.toD) hii3,JAD.toD x7,hxi3,rfl,?_⟩;revert h;refine AD (fun v9=>⟨X::yb a1::X::X::X::yO 5 D.u8 v9::X::X::y6 a0::yi (a0.length:Int)::yi (i3:Int)::dd 25 ([]),nn 5 (yR 5 1 D.u8 v9::nn 30 ([]))⟩) ?_ ?_
  ·intro k10 h;refine sJ h (fun h=>?_) fun h=>AA wk h;(conv=>whnf);refine .inl (dO ?_);refine⟨_,Bc _,?_⟩;refine⟨rfl,?_⟩;obtain⟨v11,g12,h⟩:=AB h;refine⟨rfl,Ae (f:=D.u8) (g:=D.u8) g12,_,Af (f:=D.u8) g12,?_⟩;obtain⟨v13,g14,h⟩:=AB h;refine⟨_,_,F2 g14,.inr rfl,?_⟩;refine⟨_,rfl,?_⟩;refine⟨by decide,_,rfl,?_⟩;(conv=>whnf);refine .inr (.inl ?_);obtain⟨_,g15,h⟩:=AB h;have g21c:=EJ g15;refine⟨YF (f:=D.u8) g15,rfl,(Int.toNat 0),(Int.toNat (AK (Int.tdiv (AK (x7.Len + 7)) 8)) - Int.toNat 0),rfl,rfl,?_⟩;refine⟨(by first | rfl | (simp only[X10,X21];omega)|(simp only[cpy,X10,X21,X11,X18,X17,X20];omega)),List.map D.u8 (List.take (Int.toNat (AK (Int.tdiv (AK (x7.Len + 7)) 8)) - Int.toNat 0) (List.drop (Int.toNat 0) v13)),V1,?_⟩;obtain⟨v16,g17,h⟩:=AB h;refine⟨rfl,Ae (f:=D.u8) (g:=D.u8) g17,_,Af (f:=D.u8) g17,?_⟩;(conv=>whnf);refine cO ?_;exact AA wk h
  rintro v9 h;refine⟨_,hwi3,?_⟩;exact hK8 _ _ wk h
 rintro v1 h;(conv=>whnf);refine .inl ?_;(conv=>whnf);refine .inl ?_;refine⟨rfl,?_⟩;cases h;exact⟨rfl,rfl⟩
theorem Lm {wl:Prop} {a0:List JAB} {a1:JAB} {r:(List JAB)} (h:G5 a0 a1=some r):CallsOK (Wl wl) Tryz.prog 80 [AV.d (D.l 3 JAB.toD a0),AV.d (JAB.toD a1)] [] (.d (D.l 3 JAB.toD r)) []:=by
 refine oK Tryz.f80 ⟨rfl,?_⟩;unfold G5 at h;revert h;refine AD (fun v1=>⟨y0 a0::X::X::yr 3 0::X::yi v1::dd 27 ([]),N::N::N::yB (JAB.av a1)::nn 29 ([])⟩) ?_ ?_
 ·intro k2 h;revert h;refine Ab (fun v3=>⟨y0 a0::X::X::yr 3 0::X::yi v3::dd 27 ([]),N::N::N::yB (JAB.av a1)::nn 29 ([])⟩) ?_ ?_
  ·exact wk
  rintro next4 v3 K5 h hK6;revert h;refine AD (fun v7=>⟨y0 a0::X::X::yr 3 0::X::yi v3::dd 13 (yb v7::dd 13 ([])),N::N::N::yB (JAB.av a1)::nn 29 ([])⟩) ?_ ?_
  ·intro k8 h;(conv=>whnf);refine .inl (dO ?_);refine⟨a0.length,X10 _,?_⟩;refine sJ h ?_ ?_<;>intro h
   ·obtain⟨v9,g10,h⟩:=AB h;refine⟨AL (f:=JAB.toD) g10,JAB.toD v9,AM (f:=JAB.toD) g10,rfl,?_⟩;(conv=>whnf);refine cO ?_;exact AA wk h
   (conv=>whnf);refine cO ?_;exact AA wk h
  rintro v7 h;(conv=>whnf);refine .go ?_;refine sJ h (fun h=>?_) fun h=>AA wk h;(conv=>whnf);refine .go ?_;refine⟨_,rfl,?_⟩;exact hK6 _ _ wk h
 rintro v1 h;(conv=>whnf);refine .inl (dO ?_);obtain⟨v11,g12,h⟩:=AB h;refine⟨BX (f:=JAB.toD) g12,_,BI (f:=JAB.toD) g12,?_⟩;obtain⟨_,g13,h⟩:=AB h;refine⟨DZ (g:=JAB.toD) g13,?_⟩;refine⟨rfl,?_⟩;obtain⟨v14,g15,h⟩:=AB h;refine⟨rfl,Ae (f:=JAB.toD) (g:=JAB.toD) g15,_,Af (f:=JAB.toD) g15,?_⟩;obtain⟨v16,g17,h⟩:=AB h;refine⟨CH (f:=JAB.toD) g17,_,CJ (f:=JAB.toD) g17,?_⟩;obtain⟨v18,g19,h⟩:=AB h;refine⟨rfl,Ae (f:=JAB.toD) (g:=JAB.toD) g19,_,Af (f:=JAB.toD) g19,?_⟩;(conv=>whnf);refine cO ?_;(conv=>whnf);refine .inl ?_;(conv=>whnf);refine .inl ?_;refine⟨rfl,?_⟩;cases h;exact⟨rfl,rfl⟩
end Go.AX.Q33
end
section
namespace Go.AX.Q33
open Go Go.AX Go.Proofs
set_option maxRecDepth 100000
set_option maxHeartbeats 4000000
set_option linter.unusedVariables false
theorem Qv {wl:Prop} {a0:List JAB} {r:(List UInt8)×Int} (h:HU a0=some r):CallsOK (Wl wl) Tryz.prog 82 [AV.d (D.l 3 JAB.toD a0)] [] (.tup [.d (D.l 1 D.u8 r.1),.d (D.i r.2)]) []:=by
 refine oK Tryz.f82 ⟨rfl,?_⟩;unfold HU at h;refine⟨a0.length,X10 _,?_⟩;revert h;refine AD (fun _=>⟨y0 a0::dd 88 ([]),nn 89 ([])⟩) ?_ ?_
 ·intro k1 h;revert h;refine AW 10 3 JAB.toD rfl (fun i2 _=>⟨y0 a0::dd 9 (y0 a0::yi (a0.length:Int)::yi (i2:Int)::dd 76 ([])),nn 89 ([])⟩) ?_ ?_ ?_
  ·exact wk
  ·rintro _ K3 h;(conv=>whnf);refine .go ?_;(conv=>whnf);refine A9 CP ?_;exact AA wk h
  rintro next4 i2 x5 _ K3 hii2 hxi2 hwi2 h hK6;(conv=>whnf);refine .go ?_;(conv=>whnf);refine A8 (CC hii2) ?_;(conv=>whnf);refine .go ?_;refine⟨A4 (f:=JAB.toD) hii2,JAB.toD x5,hxi2,rfl,?_⟩;revert h;refine AD (fun v7=>⟨y0 a0::dd 9 (y0 a0::yi (a0.length:Int)::yi (i2:Int)::dd 26 (yb v7::dd 49 ([]))),nn 89 ([])⟩) ?_ ?_
  ·intro k8 h;refine sJ h (fun h=>AA wk h) fun h=>?_;refine sJ h (fun h=>AA wk h) fun h=>?_;refine sJ h (fun h=>AA wk h) fun h=>?_;refine sJ h (fun h=>AA wk h) fun h=>?_;refine⟨x5.Data.length,X10 _,?_⟩;exact AA wk h
  rintro v7 h;(conv=>whnf);refine .go ?_;refine sJ h ?_ ?_<;>intro h
  ·(conv=>whnf);refine .inl ?_;refine⟨rfl,?_⟩;cases h;exact⟨rfl,rfl⟩
  refine⟨_,hwi2,?_⟩;exact hK6 _ _ wk h
 rintro _ h;refine⟨a0.length,X10 _,?_⟩;revert h;refine AD (fun v9=>⟨dd 6 (yO 6 D.u8 v9::dd 82 ([])),nn 6 (yR 5 1 D.u8 v9::nn 82 ([]))⟩) ?_ ?_
 ·intro k10 h;revert h;refine AW 41 3 JAB.toD rfl (fun i11 v12=>⟨dd 6 (yO 6 D.u8 v12::dd 34 (y0 a0::yi (a0.length:Int)::yi (i11:Int)::dd 45 ([]))),nn 6 (yR 5 1 D.u8 v12::nn 82 ([]))⟩) ?_ ?_ ?_
  ·exact wk
  ·rintro v12 K13 h;(conv=>whnf);refine .go ?_;(conv=>whnf);refine A9 CP ?_;exact AA wk h
  rintro next14 i11 x15 v12 K13 hii11 hxi11 hwi11 h hK16;(conv=>whnf);refine .go ?_;(conv=>whnf);refine A8 (CC hii11) ?_;(conv=>whnf);refine .go ?_;refine⟨A4 (f:=JAB.toD) hii11,JAB.toD x15,hxi11,rfl,?_⟩;refine⟨x15.Data.length,X10 _,?_⟩;revert h;refine AD (fun v17=>⟨dd 6 (yO 6 D.u8 v17::X::yr 8 0::dd 32 (y0 a0::yi (a0.length:Int)::yi (i11:Int)::dd 45 ([]))),nn 6 (yR 5 1 D.u8 v17::N::yB (JAB.av x15)::nn 80 ([]))⟩) ?_ ?_
  ·intro k18 h;refine sJ h ?_ ?_<;>intro h
   ·refine⟨_,Bc _,?_⟩;refine⟨_,Bc _,?_⟩;refine⟨_,Bc _,?_⟩;refine⟨_,Bc _,?_⟩;refine⟨by decide,_,rfl,?_⟩;refine⟨_,Bc _,?_⟩;refine⟨_,Bc _,?_⟩;refine⟨rfl,?_⟩;obtain⟨v19,g20,h⟩:=AB h;refine⟨rfl,Ae (f:=D.u8) (g:=D.u8) g20,_,Af (f:=D.u8) g20,?_⟩;exact AA wk h
   refine⟨_,Bc _,?_⟩;refine⟨_,Bc _,?_⟩;refine⟨_,Bc _,?_⟩;refine⟨_,Bc _,?_⟩;refine⟨rfl,?_⟩;obtain⟨v21,g22,h⟩:=AB h;refine⟨rfl,Ae (f:=D.u8) (g:=D.u8) g22,_,Af (f:=D.u8) g22,?_⟩;exact AA wk h
  rintro v17 h;obtain⟨v23,g24,h⟩:=AB h;refine⟨rfl,Ae (f:=D.u8) (g:=D.u8) g24,_,Af (f:=D.u8) g24,?_⟩;refine⟨_,hwi11,?_⟩;exact hK16 _ _ wk h
 rintro v9 h;refine⟨v9.length,by first | exact X10 _ | rfl | (simp only[X10];omega),?_⟩;(conv=>whnf);refine .go ?_;refine sJ h ?_ ?_<;>intro h
 ·(conv=>whnf);refine .inl ?_;refine⟨rfl,?_⟩;cases h;exact⟨rfl,rfl⟩
 (conv=>whnf);refine .inl ?_;refine⟨rfl,?_⟩;cases h;exact⟨rfl,rfl⟩
theorem JR {wl:Prop} {a0:JAH} {r:(List UInt8)×Int} (h:Ep a0=some r):CallsOK (Wl wl) Tryz.prog 41 [AV.d (JAH.toD a0)] [] (.tup [.d (D.l 1 D.u8 r.1),.d (D.i r.2)]) []:=by
 refine oK Tryz.f41 ⟨rfl,?_⟩;unfold Ep at h;refine⟨a0.Announce.length,X10 _,?_⟩;revert h;refine AD (fun v1=>⟨X::yr 1 0::X::X::y0 v1::dd 91 ([]),N::yB (JAH.av a0)::nn 94 ([])⟩) ?_ ?_
 ·intro k2 h;refine sJ h (fun h=>?_) fun h=>AA wk h;obtain⟨⟨v3,v4⟩,g5,h⟩:=AB h;refine⟨_,_,some [],QF g5,?_⟩;(conv=>whnf);refine .go ?_;refine sJ h (fun h=>?_) fun h=>AA wk h;cases h;exact⟨rfl,rfl⟩
 rintro v1 h;obtain⟨v6,g7,h⟩:=AB h;refine⟨_,_,some [],Fz g7,?_⟩;refine⟨v6.length,X10 _,?_⟩;revert h;refine AD (fun v8=>⟨X::yr 1 0::X::X::y0 v8::dd 91 ([]),N::yB (JAH.av a0)::nn 94 ([])⟩) ?_ ?_
 ·intro k9 h;refine sJ h (fun h=>?_) fun h=>AA wk h;obtain⟨v10,g11,h⟩:=AB h;refine⟨_,_,some [38],F2 g11,?_⟩;refine⟨rfl,?_⟩;obtain⟨v12,g13,h⟩:=AB h;refine⟨rfl,Ae (f:=D.u8) (g:=D.u8) g13,_,Af (f:=D.u8) g13,?_⟩;refine⟨rfl,?_⟩;obtain⟨v14,g15,h⟩:=AB h;refine⟨rfl,Ae (f:=D.u8) (g:=D.u8) g15,_,Af (f:=D.u8) g15,?_⟩;obtain⟨v16,g17,h⟩:=AB h;refine⟨rfl,Ae (f:=D.u8) (g:=D.u8) g17,_,Af (f:=D.u8) g17,?_⟩;refine⟨rfl,?_⟩;obtain⟨v18,g19,h⟩:=AB h;refine⟨_,_,some [],Lm g19,?_⟩;exact AA wk h
 rintro v8 h;obtain⟨v20,g21,h⟩:=AB h;refine⟨_,_,some [],Fz g21,?_⟩;refine⟨v20.length,X10 _,?_⟩;revert h;refine AD (fun v22=>⟨X::yr 1 0::X::X::y0 v22::dd 91 ([]),N::yB (JAH.av a0)::nn 94 ([])⟩) ?_ ?_
 ·intro k23 h;refine sJ h (fun h=>?_) fun h=>AA wk h;obtain⟨v24,g25,h⟩:=AB h;refine⟨rfl,Ae (f:=D.u8) (g:=D.u8) g25,_,Af (f:=D.u8) g25,?_⟩;refine⟨rfl,?_⟩;obtain⟨v26,g27,h⟩:=AB h;refine⟨_,_,some [],Lm g27,?_⟩;exact AA wk h
 rintro v22 h;obtain⟨⟨v28,v29⟩,g30,h⟩:=AB h;refine⟨_,_,some [],Qv g30,?_⟩;(conv=>whnf);refine .go ?_;refine sJ h ?_ ?_<;>intro h
 ·(conv=>whnf);refine .inl ?_;refine⟨rfl,?_⟩;cases h;exact⟨rfl,rfl⟩
 obtain⟨v31,g32,h⟩:=AB h;refine⟨_,_,some [],Fz g32,?_⟩;refine⟨v31.length,X10 _,?_⟩;refine⟨by decide,_,rfl,?_⟩;refine⟨_,Bc _,?_⟩;refine⟨v31.length,X10 _,?_⟩;refine⟨_,Bc _,?_⟩;obtain⟨v33,g34,h⟩:=AB h;refine⟨rfl,Ae (f:=D.u8) (g:=D.u8) g34,_,Af (f:=D.u8) g34,?_⟩;refine⟨v28.length,X10 _,?_⟩;refine⟨by decide,_,rfl,?_⟩;refine⟨_,Bc _,?_⟩;refine⟨v28.length,X10 _,?_⟩;refine⟨_,Bc _,?_⟩;refine⟨rfl,?_⟩;obtain⟨v35,g36,h⟩:=AB h;refine⟨rfl,Ae (f:=D.u8) (g:=D.u8) g36,_,Af (f:=D.u8) g36,?_⟩;obtain⟨v37,g38,h⟩:=AB h;refine⟨rfl,Ae (f:=D.u8) (g:=D.u8) g38,_,Af (f:=D.u8) g38,?_⟩;obtain⟨v39,g40,h⟩:=AB h;refine⟨_,_,some [],Fz g40,?_⟩;obtain⟨v41,g42,h⟩:=AB h;refine⟨rfl,Ae (f:=D.u8) (g:=D.u8) g42,_,Af (f:=D.u8) g42,?_⟩;(conv=>whnf);refine .inl ?_;refine⟨rfl,?_⟩;cases h;exact⟨rfl,rfl⟩
theorem P5 {wl:Prop}  {r:JAF} (h:Gf=some r):CallsOK (Wl wl) Tryz.prog 51 [] [] (.d (JAF.toD r)) []:=by
 refine oK Tryz.f51 ⟨rfl,?_⟩;unfold Gf at h;cases h;exact⟨rfl,rfl⟩
theorem BP {wl:Prop} {a0:List UInt8} {r:Addr×Int} (h:Au a0=some r):CallsOK (Wl wl) Tryz.prog 103 [AV.d (D.l 1 D.u8 a0)] [] (.tup [.d (Addr.toD r.1),.d (D.i r.2)]) []:=by
 refine oK Tryz.f103 ⟨rfl,?_⟩;unfold Au at h;revert h;refine AD (fun v1=>⟨y1 a0::X::yr 2 0::dd 11 (yb v1::dd 28 ([])),N::N::yB Addr.zv::nn 40 ([])⟩) ?_ ?_
 ·intro k2 h;refine⟨a0.length,X10 _,?_⟩;refine sJ h (fun h=>?_) fun h=>AA wk h;refine⟨a0.length,X10 _,?_⟩;exact AA wk h
 rintro v1 h;(conv=>whnf);refine .go ?_;refine sJ h ?_ ?_<;>intro h
 ·cases h;exact⟨rfl,rfl⟩
 refine⟨a0.length,X10 _,?_⟩;refine⟨a0.length,X10 _,?_⟩;revert h;refine AD (fun v3=>⟨X::X::yr 2 0::X::yr 4 0::dd 38 ([]),N::N::yB Addr.zv::N::yB (Addr.av v3)::nn 38 ([])⟩) ?_ ?_
 ·intro k4 h;revert h;refine AW 20 1 D.u8 rfl (fun i5 v6=>⟨X::X::yr 2 0::X::yr 4 0::dd 15 (y1 a0::yi (a0.length:Int)::yi (i5:Int)::dd 20 ([])),N::N::yB Addr.zv::N::yB (Addr.av v6)::nn 38 ([])⟩) ?_ ?_ ?_
  ·exact wk
  ·rintro v6 K7 h;(conv=>whnf);refine .go ?_;(conv=>whnf);refine A9 CP ?_;exact AA wk h
  rintro next8 i5 x9 v6 K7 hii5 hxi5 hwi5 h hK10;(conv=>whnf);refine .go ?_;(conv=>whnf);refine A8 (CC hii5) ?_;(conv=>whnf);refine .go ?_;refine⟨A4 (f:=D.u8) hii5,D.u8 x9,hxi5,rfl,?_⟩;refine⟨by decide,_,As _,?_⟩;refine⟨by decide,_,SX v6.Lo _,?_⟩;refine⟨_,As _,?_⟩;refine⟨by decide,_,As _,?_⟩;refine⟨_,As _,?_⟩;refine⟨_,As _,?_⟩;refine⟨_,hwi5,?_⟩;exact hK10 _ _ wk h
 rintro v3 h;cases h;exact⟨rfl,rfl⟩
theorem P2 {wl:Prop} {a0:Addr} {r:Int} (h:Dq a0=some r):CallsOK (Wl wl) Tryz.prog 148 [AV.d (Addr.toD a0)] [] (.d (D.i r)) []:=by
 refine oK Tryz.f148 ⟨rfl,?_⟩;unfold Dq at h;(conv=>whnf);refine .go ?_;refine sJ h ?_ ?_<;>intro h
 ·cases h;exact⟨rfl,rfl⟩
 cases h;exact⟨rfl,rfl⟩
theorem FB {wl:Prop} {a0:Addr} {a1:Int} {r:JAD×Int} (h:Br a0 a1=some r):CallsOK (Wl wl) Tryz.prog 104 [AV.d (Addr.toD a0),AV.d (D.i a1)] [] (.tup [.d (JAD.toD r.1),.d (D.i r.2)]) []:=by
 refine oK Tryz.f104 ⟨rfl,?_⟩;unfold Br at h;(conv=>whnf);refine .go ?_;obtain⟨v1,g2,h⟩:=AB h;refine⟨_,_,some [],HT g2,?_⟩;(conv=>whnf);refine .go ?_;refine sJ h ?_ ?_<;>intro h
 ·cases h;exact⟨rfl,rfl⟩
 revert h;refine AD (fun v3=>⟨X::yi a1::yr 2 0::X::yr 4 0::dd 10 (yb v3::dd 38 ([])),N::N::yB (Addr.av a0)::N::yB JAD.zv::nn 49 ([])⟩) ?_ ?_
 ·intro k4 h;refine sJ h (fun h=>AA wk h) fun h=>?_;obtain⟨v5,g6,h⟩:=AB h;refine⟨_,_,some [],P2 g6,?_⟩;exact AA wk h
 rintro v3 h;(conv=>whnf);refine .go ?_;refine sJ h ?_ ?_<;>intro h
 ·cases h;exact⟨rfl,rfl⟩
 obtain⟨v7,g8,h⟩:=AB h;refine⟨_,_,some [26],F2 g8,?_⟩;revert h;refine AD (fun v9=>⟨X::yi a1::X::X::yr 4 0::X::yO 26 D.u8 v9::dd 47 ([]),nn 4 (yB JAD.zv::nn 21 (yR 5 1 D.u8 v9::nn 27 ([])))⟩) ?_ ?_
 ·intro k10 h;revert h;refine Ab (fun (v11,v12)=>⟨X::yi a1::X::X::yr 4 0::X::yO 26 D.u8 v12::yi v11::dd 46 ([]),nn 4 (yB JAD.zv::nn 21 (yR 5 1 D.u8 v12::nn 27 ([])))⟩) ?_ ?_
  ·exact wk
  rintro next13 ⟨v11,v12⟩ K14 h hK15;refine⟨v12.length,by first | exact X10 _ | rfl | (simp only[X10];omega),?_⟩;refine⟨_,rfl,?_⟩;(conv=>whnf);refine .go ?_;refine sJ h (fun h=>?_) fun h=>AA wk h;(conv=>whnf);refine .go ?_;refine⟨by decide,_,rfl,?_⟩;obtain⟨v16,g17,h⟩:=AB h;refine⟨rfl,AL (f:=D.u8) g17,?_⟩;refine⟨rfl,D.u8 v16,(AM (f:=D.u8) g17),?_⟩;refine⟨by decide,_,rfl,?_⟩;refine⟨_,As _,?_⟩;refine⟨Int.natCast_nonneg _,_,al (128:UInt8) _,?_⟩;refine⟨_,Bc _,?_⟩;obtain⟨v18,g19,h⟩:=AB h;refine⟨rfl,AL (f:=D.u8) g19,?_⟩;obtain⟨v20,g21,h⟩:=AB h;have g21l:=GX g21;refine⟨rfl,rfl,D.u8 v18,(AM (f:=D.u8) g19),?_⟩;refine⟨_,JW (f:=D.u8) g21,?_⟩;refine⟨_,rfl,?_⟩;exact hK15 _ _ wk h
 rintro v9 h;refine⟨rfl,?_⟩;obtain⟨⟨v22,v23⟩,g24,h⟩:=AB h;refine⟨_,_,none,BP g24,?_⟩;cases h;exact⟨rfl,rfl⟩
theorem Ph {wl:Prop} {a0:JAD} {r:Bool} (h:EF a0=some r):CallsOK (Wl wl) Tryz.prog 75 [AV.d (JAD.toD a0)] [] (.d (D.b r)) []:=by
 refine oK Tryz.f75 ⟨rfl,?_⟩;unfold EF at h;obtain⟨⟨v1,v2⟩,g3,h⟩:=AB h;refine⟨_,_,some [],FB g3,?_⟩;revert h;refine AD (fun v4=>⟨X::X::yb v4::dd 17 ([]),nn 20 ([])⟩) ?_ ?_
 ·intro k5 h;exact sJ h (fun h=>AA wk h) fun h=>AA wk h
 rintro v4 h;cases h;exact⟨rfl,rfl⟩
theorem Q3 {wl:Prop} {a0:List JAC} {a1:List JAC} {r:Bool} (h:HK a0 a1=some r):CallsOK (Wl wl) Tryz.prog 117 [AV.d (D.l 2 JAC.toD a0),AV.d (D.l 2 JAC.toD a1)] [] (.d (D.b r)) []:=by
 refine oK Tryz.f117 ⟨rfl,?_⟩;unfold HK at h;refine⟨a0.length,X10 _,?_⟩;refine⟨a1.length,X10 _,?_⟩;(conv=>whnf);refine .go ?_;refine sJ h ?_ ?_<;>intro h
 ·cases h;exact⟨rfl,rfl⟩
 refine⟨a0.length,X10 _,?_⟩;revert h;refine AD (fun _=>⟨dd 61 ([]),nn 61 ([])⟩) ?_ ?_
 ·intro k1 h;revert h;refine AW 14 2 JAC.toD rfl (fun i2 _=>⟨X::y2 a1::dd 12 (y2 a0::yi (a0.length:Int)::yi (i2:Int)::dd 44 ([])),nn 61 ([])⟩) ?_ ?_ ?_
  ·exact wk
  ·rintro _ K3 h;(conv=>whnf);refine .go ?_;(conv=>whnf);refine A9 CP ?_;exact AA wk h
  rintro next4 i2 x5 _ K3 hii2 hxi2 hwi2 h hK6;(conv=>whnf);refine .go ?_;(conv=>whnf);refine A8 (CC hii2) ?_;revert h;refine AD (fun _=>⟨X::y2 a1::dd 12 (y2 a0::yi (a0.length:Int)::yi (i2:Int)::dd 44 ([])),nn 61 ([])⟩) ?_ ?_
  ·intro k7 h;refine⟨A4 (f:=JAC.toD) hii2,JAC.toD x5,hxi2,rfl,?_⟩;revert h;refine AD (fun v8=>⟨X::y2 a1::X::X::X::yi (i2:Int)::yr 6 0::dd 7 (y2 a0::yi (a0.length:Int)::yi (i2:Int)::dd 23 (yb v8::dd 20 ([]))),nn 6 (yB (JAC.av x5)::nn 54 ([]))⟩) ?_ ?_
   ·intro k9 h;(conv=>whnf);refine .inl (dO ?_);obtain⟨v10,g11,h⟩:=AB h;refine⟨AL (f:=JAC.toD) g11,JAC.toD v10,AM (f:=JAC.toD) g11,rfl,?_⟩;refine sJ h ?_ ?_<;>intro h
    ·(conv=>whnf);refine cO ?_;exact AA wk h
    refine⟨x5.ASNs.length,X10 _,?_⟩;obtain⟨v12,g13,h⟩:=AB h;refine⟨AL (f:=JAC.toD) g13,JAC.toD v12,AM (f:=JAC.toD) g13,rfl,?_⟩;refine⟨v12.ASNs.length,X10 _,?_⟩;(conv=>whnf);refine cO ?_;exact AA wk h
   rintro v8 h;(conv=>whnf);refine .go ?_;refine sJ h ?_ ?_<;>intro h
   ·cases h;exact⟨rfl,rfl⟩
   refine⟨x5.ASNs.length,X10 _,?_⟩;revert h;refine AD (fun _=>⟨X::y2 a1::dd 12 (y2 a0::yi (a0.length:Int)::yi (i2:Int)::dd 44 ([])),nn 61 ([])⟩) ?_ ?_
   ·intro k14 h;revert h;refine AW 42 1 D.i rfl (fun i15 _=>⟨X::y2 a1::X::X::X::yi (i2:Int)::dd 8 (y2 a0::yi (a0.length:Int)::yi (i2:Int)::dd 25 (AV.d (D.l 1 D.i x5.ASNs)::yi (x5.ASNs.length:Int)::yi (i15:Int)::dd 16 ([]))),nn 61 ([])⟩) ?_ ?_ ?_
    ·exact wk
    ·rintro _ K16 h;(conv=>whnf);refine .go ?_;(conv=>whnf);refine A9 CP ?_;exact AA wk h
    rintro next17 i15 x18 _ K16 hii15 hxi15 hwi15 h hK19;(conv=>whnf);refine .go ?_;(conv=>whnf);refine A8 (CC hii15) ?_;(conv=>whnf);refine .go ?_;refine⟨A4 (f:=D.i) hii15,D.i x18,hxi15,rfl,?_⟩;obtain⟨v20,g21,h⟩:=AB h;refine⟨AL (f:=JAC.toD) g21,JAC.toD v20,AM (f:=JAC.toD) g21,rfl,?_⟩;obtain⟨v22,g23,h⟩:=AB h;refine⟨AL (f:=D.i) g23,D.i v22,AM (f:=D.i) g23,rfl,?_⟩;(conv=>whnf);refine .go ?_;refine sJ h ?_ ?_<;>intro h
    ·cases h;exact⟨rfl,rfl⟩
    refine⟨_,hwi15,?_⟩;exact hK19 _ _ wk h
   rintro _ h;exact AA wk h
  rintro _ h;refine⟨_,hwi2,?_⟩;exact hK6 _ _ wk h
 rintro _ h;cases h;exact⟨rfl,rfl⟩
theorem Q7 {wl:Prop} {a0:List JAA} {a1:List JAA} {r:Bool} (h:HM a0 a1=some r):CallsOK (Wl wl) Tryz.prog 118 [AV.d (D.l 2 JAA.toD a0),AV.d (D.l 2 JAA.toD a1)] [] (.d (D.b r)) []:=by
 refine oK Tryz.f118 ⟨rfl,?_⟩;unfold HM at h;refine⟨a0.length,X10 _,?_⟩;refine⟨a1.length,X10 _,?_⟩;(conv=>whnf);refine .go ?_;refine sJ h ?_ ?_<;>intro h
 ·cases h;exact⟨rfl,rfl⟩
 refine⟨a0.length,X10 _,?_⟩;revert h;refine AD (fun _=>⟨dd 26 ([]),nn 26 ([])⟩) ?_ ?_
 ·intro k1 h;revert h;refine AW 12 2 JAA.toD rfl (fun i2 _=>⟨X::y4 a1::dd 10 (y4 a0::yi (a0.length:Int)::yi (i2:Int)::dd 11 ([])),nn 26 ([])⟩) ?_ ?_ ?_
  ·exact wk
  ·rintro _ K3 h;(conv=>whnf);refine .go ?_;(conv=>whnf);refine A9 CP ?_;exact AA wk h
  rintro next4 i2 x5 _ K3 hii2 hxi2 hwi2 h hK6;(conv=>whnf);refine .go ?_;(conv=>whnf);refine A8 (CC hii2) ?_;(conv=>whnf);refine .go ?_;refine⟨A4 (f:=JAA.toD) hii2,JAA.toD x5,hxi2,rfl,?_⟩;(conv=>whnf);refine .inl (dO ?_);obtain⟨v7,g8,h⟩:=AB h;refine⟨AL (f:=JAA.toD) g8,JAA.toD v7,AM (f:=JAA.toD) g8,rfl,?_⟩;(conv=>whnf);refine cO ?_;(conv=>whnf);refine .go ?_;refine sJ h ?_ ?_<;>intro h
  ·cases h;exact⟨rfl,rfl⟩
  refine⟨_,hwi2,?_⟩;exact hK6 _ _ wk h
 rintro _ h;cases h;exact⟨rfl,rfl⟩
theorem LE {wl:Prop} {a0:List JAE} {a1:List JAE} {r:Bool} (h:EQ a0 a1=some r):CallsOK (Wl wl) Tryz.prog 119 [AV.d (D.l 3 JAE.toD a0),AV.d (D.l 3 JAE.toD a1)] [] (.d (D.b r)) []:=by
 refine oK Tryz.f119 ⟨rfl,?_⟩;unfold EQ at h;refine⟨a0.length,X10 _,?_⟩;refine⟨a1.length,X10 _,?_⟩;(conv=>whnf);refine .go ?_;refine sJ h ?_ ?_<;>intro h
 ·cases h;exact⟨rfl,rfl⟩
 refine⟨a0.length,X10 _,?_⟩;revert h;refine AD (fun _=>⟨dd 26 ([]),nn 26 ([])⟩) ?_ ?_
 ·intro k1 h;revert h;refine AW 12 3 JAE.toD rfl (fun i2 _=>⟨X::y5 a1::dd 10 (y5 a0::yi (a0.length:Int)::yi (i2:Int)::dd 11 ([])),nn 26 ([])⟩) ?_ ?_ ?_
  ·exact wk
  ·rintro _ K3 h;(conv=>whnf);refine .go ?_;(conv=>whnf);refine A9 CP ?_;exact AA wk h
  rintro next4 i2 x5 _ K3 hii2 hxi2 hwi2 h hK6;(conv=>whnf);refine .go ?_;(conv=>whnf);refine A8 (CC hii2) ?_;(conv=>whnf);refine .go ?_;refine⟨A4 (f:=JAE.toD) hii2,JAE.toD x5,hxi2,rfl,?_⟩;(conv=>whnf);refine .inl (dO ?_);obtain⟨v7,g8,h⟩:=AB h;refine⟨AL (f:=JAE.toD) g8,JAE.toD v7,AM (f:=JAE.toD) g8,rfl,?_⟩;(conv=>whnf);refine cO ?_;(conv=>whnf);refine .go ?_;refine sJ h ?_ ?_<;>intro h
  ·cases h;exact⟨rfl,rfl⟩
  refine⟨_,hwi2,?_⟩;exact hK6 _ _ wk h
 rintro _ h;cases h;exact⟨rfl,rfl⟩
theorem L1 {wl:Prop} {a0:List JAB} {a1:List JAB} {r:Bool} (h:Em a0 a1=some r):CallsOK (Wl wl) Tryz.prog 120 [AV.d (D.l 3 JAB.toD a0),AV.d (D.l 3 JAB.toD a1)] [] (.d (D.b r)) []:=by
 refine oK Tryz.f120 ⟨rfl,?_⟩;unfold Em at h;refine⟨a0.length,X10 _,?_⟩;refine⟨a1.length,X10 _,?_⟩;(conv=>whnf);refine .go ?_;refine sJ h ?_ ?_<;>intro h
 ·cases h;exact⟨rfl,rfl⟩
 refine⟨a0.length,X10 _,?_⟩;revert h;refine AD (fun _=>⟨dd 50 ([]),nn 50 ([])⟩) ?_ ?_
 ·intro k1 h;revert h;refine AW 12 3 JAB.toD rfl (fun i2 _=>⟨X::y0 a1::dd 10 (y0 a0::yi (a0.length:Int)::yi (i2:Int)::dd 35 ([])),nn 50 ([])⟩) ?_ ?_ ?_
  ·exact wk
  ·rintro _ K3 h;(conv=>whnf);refine .go ?_;(conv=>whnf);refine A9 CP ?_;exact AA wk h
  rintro next4 i2 x5 _ K3 hii2 hxi2 hwi2 h hK6;(conv=>whnf);refine .go ?_;(conv=>whnf);refine A8 (CC hii2) ?_;(conv=>whnf);refine .go ?_;refine⟨A4 (f:=JAB.toD) hii2,JAB.toD x5,hxi2,rfl,?_⟩;revert h;refine AD (fun v7=>⟨X::y0 a1::dd 10 (y0 a0::yi (a0.length:Int)::yi (i2:Int)::dd 33 (yb v7::X::[])),nn 50 ([])⟩) ?_ ?_
  ·intro k8 h;(conv=>whnf);refine .inl (dO ?_);obtain⟨v9,g10,h⟩:=AB h;refine⟨AL (f:=JAB.toD) g10,JAB.toD v9,AM (f:=JAB.toD) g10,rfl,?_⟩;refine sJ h ?_ ?_<;>intro h
   ·(conv=>whnf);refine cO ?_;exact AA wk h
   obtain⟨v11,g12,h⟩:=AB h;refine⟨AL (f:=JAB.toD) g12,JAB.toD v11,AM (f:=JAB.toD) g12,rfl,?_⟩;refine sJ h ?_ ?_<;>intro h
   ·(conv=>whnf);refine cO ?_;exact AA wk h
   refine⟨x5.Data,rfl,?_⟩;obtain⟨v13,g14,h⟩:=AB h;refine⟨AL (f:=JAB.toD) g14,JAB.toD v13,AM (f:=JAB.toD) g14,rfl,?_⟩;refine⟨v13.Data,rfl,?_⟩;(conv=>whnf);refine cO ?_;exact AA wk h
  rintro v7 h;(conv=>whnf);refine .go ?_;refine sJ h ?_ ?_<;>intro h
  ·cases h;exact⟨rfl,rfl⟩
  refine⟨_,hwi2,?_⟩;exact hK6 _ _ wk h
 rintro _ h;cases h;exact⟨rfl,rfl⟩
theorem Qn {wl:Prop} {a0:JAF} {a1:JAF} {r:Bool} (h:HD a0 a1=some r):CallsOK (Wl wl) Tryz.prog 76 [AV.d (JAF.toD a0),AV.d (JAF.toD a1)] [] (.d (D.b r)) []:=by
 refine oK Tryz.f76 ⟨rfl,?_⟩;unfold HD at h;revert h;refine AD (fun v1=>⟨dd 4 (yb v1::dd 61 ([])),nn 66 ([])⟩) ?_ ?_
 ·intro k2 h;refine sJ h (fun h=>?_) fun h=>AA wk h;obtain⟨v3,g4,h⟩:=AB h;refine⟨_,_,some [],Q3 g4,?_⟩;refine sJ h (fun h=>?_) fun h=>AA wk h;refine sJ h (fun h=>?_) fun h=>AA wk h;refine sJ h (fun h=>?_) fun h=>AA wk h;refine sJ h (fun h=>?_) fun h=>AA wk h;refine sJ h (fun h=>?_) fun h=>AA wk h;obtain⟨v5,g6,h⟩:=AB h;refine⟨_,_,some [],Q7 g6,?_⟩;refine sJ h (fun h=>?_) fun h=>AA wk h;obtain⟨v7,g8,h⟩:=AB h;refine⟨_,_,some [],LE g8,?_⟩;refine sJ h (fun h=>?_) fun h=>AA wk h;obtain⟨v9,g10,h⟩:=AB h;refine⟨_,_,some [],L1 g10,?_⟩;exact AA wk h
 rintro v1 h;cases h;exact⟨rfl,rfl⟩
end Go.AX.Q33
end
section
namespace Go.AX.Q33
open Go Go.AX Go.Proofs
set_option maxRecDepth 100000
set_option maxHeartbeats 4000000
set_option linter.unusedVariables false
theorem P8 {wl:Prop} {a0:JAH} {r:Bool} (h:Eo a0=some r):CallsOK (Wl wl) Tryz.prog 40 [AV.d (JAH.toD a0)] [] (.d (D.b r)) []:=by
 refine oK Tryz.f40 ⟨rfl,?_⟩;unfold Eo at h;revert h;refine AD (fun v1=>⟨X::yr 1 0::dd 16 (yb v1::dd 73 ([])),N::yB (JAH.av a0)::nn 90 ([])⟩) ?_ ?_
 ·intro k2 h;refine⟨a0.Withdraw.length,X10 _,?_⟩;refine sJ h (fun h=>AA wk h) fun h=>?_;refine⟨a0.Announce.length,X10 _,?_⟩;exact AA wk h
 rintro v1 h;(conv=>whnf);refine .go ?_;refine sJ h ?_ ?_<;>intro h
 ·cases h;exact⟨rfl,rfl⟩
 (conv=>whnf);refine .inl (dO ?_);obtain⟨_,g3,h⟩:=AB h;refine⟨DZ (g:=JAD.toD) g3,?_⟩;obtain⟨v4,g5,h⟩:=AB h;refine⟨rfl,Ae (f:=JAD.toD) (g:=JAD.toD) g5,_,Af (f:=JAD.toD) g5,?_⟩;refine⟨v4.length,by first | exact X10 _ | rfl | (simp only[X10];omega),?_⟩;(conv=>whnf);refine cO ?_;revert h;refine AD (fun _=>⟨X::yr 1 0::dd 90 ([]),N::yB (JAH.av a0)::nn 90 ([])⟩) ?_ ?_
 ·intro k6 h;revert h;refine L6 21 73 4 .no JAD.toD rfl (fun i7 _=>⟨X::yr 1 0::dd 22 (yO 21 JAD.toD v4::yi (v4.length:Int)::yi (i7:Int)::dd 65 ([])),N::yB (JAH.av a0)::nn 19 (yR 73 4 JAD.toD v4::nn 70 ([]))⟩) ?_ ?_ ?_
  ·exact wk
  ·rintro _ K8 h;(conv=>whnf);refine .go ?_;(conv=>whnf);refine A9 CP ?_;exact AA wk h
  rintro next9 i7 x10 _ K8 hii7 hxi7 hwi7 h hK11;(conv=>whnf);refine .go ?_;(conv=>whnf);refine A8 (CC hii7) ?_;(conv=>whnf);refine .go ?_;refine⟨rfl,A4 (f:=JAD.toD) hii7,?_⟩;refine⟨rfl,JAD.toD x10,hxi7,?_⟩;obtain⟨v12,g13,h⟩:=AB h;refine⟨_,_,some [],Ph g13,?_⟩;(conv=>whnf);refine .go ?_;refine sJ h ?_ ?_<;>intro h
  ·cases h;exact⟨rfl,rfl⟩
  refine⟨_,hwi7,?_⟩;exact hK11 _ _ wk h
 rintro _ h;revert h;refine AD (fun v14=>⟨X::yr 1 0::dd 42 (yb v14::dd 47 ([])),N::yB (JAH.av a0)::nn 90 ([])⟩) ?_ ?_
 ·intro k15 h;(conv=>whnf);refine .inl (dO ?_);refine⟨a0.Announce.length,X10 _,?_⟩;refine sJ h ?_ ?_<;>intro h
  ·obtain⟨v16,g17,h⟩:=AB h;refine⟨_,_,P5 g17,.inl rfl,?_⟩;obtain⟨v18,g19,h⟩:=AB h;refine⟨_,_,Qn g19,.inl rfl,?_⟩;(conv=>whnf);refine cO ?_;exact AA wk h
  (conv=>whnf);refine cO ?_;exact AA wk h
 rintro v14 h;(conv=>whnf);refine .go ?_;refine sJ h ?_ ?_<;>intro h
 ·cases h;exact⟨rfl,rfl⟩
 refine⟨a0.Announce.length,X10 _,?_⟩;revert h;refine AD (fun _=>⟨X::yr 1 0::dd 90 ([]),N::yB (JAH.av a0)::nn 90 ([])⟩) ?_ ?_
 ·intro k20 h;revert h;refine AW 46 4 JAD.toD rfl (fun i21 _=>⟨X::yr 1 0::dd 44 (AV.d (D.l 4 JAD.toD a0.Announce)::yi (a0.Announce.length:Int)::yi (i21:Int)::dd 43 ([])),N::yB (JAH.av a0)::nn 90 ([])⟩) ?_ ?_ ?_
  ·exact wk
  ·rintro _ K22 h;(conv=>whnf);refine .go ?_;(conv=>whnf);refine A9 CP ?_;exact AA wk h
  rintro next23 i21 x24 _ K22 hii21 hxi21 hwi21 h hK25;(conv=>whnf);refine .go ?_;(conv=>whnf);refine A8 (CC hii21) ?_;(conv=>whnf);refine .go ?_;refine⟨A4 (f:=JAD.toD) hii21,JAD.toD x24,hxi21,rfl,?_⟩;revert h;refine AD (fun v26=>⟨X::yr 1 0::dd 44 (AV.d (D.l 4 JAD.toD a0.Announce)::yi (a0.Announce.length:Int)::yi (i21:Int)::dd 29 (yb v26::dd 13 ([]))),N::yB (JAH.av a0)::nn 90 ([])⟩) ?_ ?_
  ·intro k27 h;refine sJ h (fun h=>AA wk h) fun h=>?_;refine sJ h (fun h=>AA wk h) fun h=>?_;refine sJ h (fun h=>AA wk h) fun h=>?_;obtain⟨v28,g29,h⟩:=AB h;refine⟨_,_,some [],J8 g29,?_⟩;exact AA wk h
  rintro v26 h;(conv=>whnf);refine .go ?_;refine sJ h ?_ ?_<;>intro h
  ·cases h;exact⟨rfl,rfl⟩
  refine⟨_,hwi21,?_⟩;exact hK25 _ _ wk h
 rintro _ h;obtain⟨⟨v30,v31⟩,g32,h⟩:=AB h;refine⟨_,_,some [],JR g32,?_⟩;revert h;refine AD (fun v33=>⟨X::X::yb v33::dd 89 ([]),nn 92 ([])⟩) ?_ ?_
 ·intro k34 h;refine sJ h (fun h=>?_) fun h=>AA wk h;refine⟨v30.length,X10 _,?_⟩;exact AA wk h
 rintro v33 h;cases h;exact⟨rfl,rfl⟩
theorem Of {wl:Prop} {a0:JAH} {r:(List UInt8)×Int} (h:Fa a0=some r):CallsOK (Wl wl) Tryz.prog 21 [AV.d (JAH.toD a0)] [] (.tup [.d (D.l 1 D.u8 r.1),.d (D.i r.2)]) []:=by
 refine oK Tryz.f21 ⟨rfl,?_⟩;unfold Fa at h;obtain⟨v1,g2,h⟩:=AB h;refine⟨_,_,some [],P8 g2,?_⟩;(conv=>whnf);refine .go ?_;refine sJ h ?_ ?_<;>intro h
 ·cases h;exact⟨rfl,rfl⟩
 obtain⟨⟨v3,v4⟩,g5,h⟩:=AB h;refine⟨_,_,some [],JR g5,?_⟩;cases h;exact⟨rfl,rfl⟩
theorem Q8 {wl:Prop} {a0:Int} {r:JAD} (h:GI a0=some r):CallsOK (Wl wl) Tryz.prog 93 [AV.d (D.i a0)] [] (.d (JAD.toD r)) []:=by
 refine oK Tryz.f93 ⟨rfl,?_⟩;unfold GI at h;(conv=>whnf);refine .go ?_;refine sJ h ?_ ?_<;>intro h
 ·refine⟨_,As _,?_⟩;refine⟨by decide,_,As _,?_⟩;refine⟨_,As _,?_⟩;cases h;exact⟨rfl,rfl⟩
 refine⟨_,As _,?_⟩;refine⟨by decide,_,As _,?_⟩;refine⟨_,As _,?_⟩;cases h;exact⟨rfl,rfl⟩
theorem E5 {wl:Prop} {a0:JAI} {r:JAD×JAI} (h:CQ a0=some r):CallsOK (Wl wl) Tryz.prog 52 [.ref 0 0] [.box (JAI.av a0)] (.d (JAD.toD r.1)) [.box (JAI.av r.2)]:=by
 refine oK Tryz.f52 ⟨rfl,?_⟩;unfold CQ at h;obtain⟨⟨v1,v2⟩,g3,h⟩:=AB h;refine⟨_,_,some [],AN g3,?_⟩;obtain⟨v4,g5,h⟩:=AB h;refine⟨_,_,some [],Q8 g5,?_⟩;obtain⟨⟨v6,v7⟩,g8,h⟩:=AB h;refine⟨_,_,some [],AN g8,?_⟩;(conv=>whnf);refine .go ?_;revert h;refine AD (fun (v9,v10)=>⟨X::X::yr 3 0::yr 4 0::dd 29 ([]),yB (JAI.av v9)::N::N::yB JAD.zv::yB (JAD.av v10)::nn 29 ([])⟩) ?_ ?_
 ·intro k11 h;refine sJ h ?_ ?_<;>intro h
  ·revert h;refine AD (fun v12=>⟨X::X::yr 3 0::yr 4 0::dd 29 ([]),yB (JAI.av v7)::N::N::yB JAD.zv::yB [AV.d (D.b v4.Addr.V6),AV.d (D.u64 v4.Addr.Hi),AV.d (D.u64 v4.Addr.Lo),yi v12]::nn 29 ([])⟩) ?_ ?_
   ·intro k13 h;exact sJ h (fun h=>AA wk h) fun h=>AA wk h
   rintro v12 h;exact AA wk h
  revert h;refine AD (fun (v14,v15)=>⟨X::X::yr 3 0::yr 4 0::dd 29 ([]),yB (JAI.av v14)::N::N::yB JAD.zv::yB (JAD.av v15)::nn 29 ([])⟩) ?_ ?_
  ·intro k16 h;refine sJ h (fun h=>?_) fun h=>AA wk h;revert h;refine AD (fun v17=>⟨yr 0 0::X::yr 3 0::yr 4 0::dd 29 ([]),yB (JAI.av v7)::N::N::yB JAD.zv::yB [AV.d (D.b v4.Addr.V6),AV.d (D.u64 v4.Addr.Hi),AV.d (D.u64 v4.Addr.Lo),yi v17]::nn 29 ([])⟩) ?_ ?_
   ·intro k18 h;exact sJ h (fun h=>AA wk h) fun h=>AA wk h
   rintro v17 h;(conv=>whnf);refine .inl (dO ?_);obtain⟨⟨v19,v20⟩,g21,h⟩:=AB h;refine⟨_,_,AN g21,.inl rfl,?_⟩;refine⟨_,As _,?_⟩;refine⟨_,As _,?_⟩;(conv=>whnf);refine cO ?_;exact AA wk h
  rintro⟨v14,v15⟩ h;exact AA wk h
 rintro⟨v9,v10⟩ h;cases h;exact⟨rfl,rfl⟩
theorem Mc {wl:Prop} {a0:Int} {a1:Bool} {r:Addr} (h:G3 a0 a1=some r):CallsOK (Wl wl) Tryz.prog 109 [AV.d (D.i a0),AV.d (D.b a1)] [] (.d (Addr.toD r)) []:=by
 refine oK Tryz.f109 ⟨rfl,?_⟩;unfold G3 at h;(conv=>whnf);refine .go ?_;refine sJ h ?_ ?_<;>intro h
 ·refine⟨_,As _,?_⟩;cases h;exact⟨rfl,rfl⟩
 refine⟨by decide,_,rfl,?_⟩;refine⟨_,rfl,?_⟩;refine⟨_,As _,?_⟩;refine⟨_,As _,?_⟩;cases h;exact⟨rfl,rfl⟩
theorem IC {wl:Prop} {a0:JAI} {r:(List JAA)×JAI} (h:CM a0=some r):CallsOK (Wl wl) Tryz.prog 129 [.ref 0 0] [.box (JAI.av a0)] (.d (D.l 2 JAA.toD r.1)) [.box (JAI.av r.2)]:=by
 refine oK Tryz.f129 ⟨rfl,?_⟩;unfold CM at h;obtain⟨⟨v1,v2⟩,g3,h⟩:=AB h;refine⟨_,_,some [],AN g3,?_⟩;refine⟨([(⟨0,99⟩:JAA),(⟨0,101⟩:JAA),(⟨0,102⟩:JAA),(⟨99,101⟩:JAA),(⟨99,103⟩:JAA),(⟨500,1⟩:JAA),(⟨65535,666⟩:JAA),(⟨65535,65282⟩:JAA)]:List JAA).length,by first | exact X10 _ | rfl | (simp only[X10];omega),?_⟩;revert h;refine AD (fun (v4,v5)=>⟨dd 4 (yO 5 JAA.toD v5::dd 43 ([])),yB (JAI.av v4)::nn 4 (yR 191 2 JAA.toD v5::nn 43 ([]))⟩) ?_ ?_
 ·intro k6 h;revert h;refine L6 17 191 2 .no JAA.toD rfl (fun i7 (v8,v9)=>⟨yr 0 0::X::X::X::yO 5 JAA.toD v9::yi v1::dd 13 (yO 17 JAA.toD ([(⟨0,99⟩:JAA),(⟨0,101⟩:JAA),(⟨0,102⟩:JAA),(⟨99,101⟩:JAA),(⟨99,103⟩:JAA),(⟨500,1⟩:JAA),(⟨65535,666⟩:JAA),(⟨65535,65282⟩:JAA)]:List JAA)::yi (([(⟨0,99⟩:JAA),(⟨0,101⟩:JAA),(⟨0,102⟩:JAA),(⟨99,101⟩:JAA),(⟨99,103⟩:JAA),(⟨500,1⟩:JAA),(⟨65535,666⟩:JAA),(⟨65535,65282⟩:JAA)]:List JAA).length:Int)::yi (i7:Int)::dd 26 ([])),yB (JAI.av v8)::nn 4 (yR 191 2 JAA.toD v9::nn 11 (yR 191 2 JAA.toD ([(⟨0,99⟩:JAA),(⟨0,101⟩:JAA),(⟨0,102⟩:JAA),(⟨99,101⟩:JAA),(⟨99,103⟩:JAA),(⟨500,1⟩:JAA),(⟨65535,666⟩:JAA),(⟨65535,65282⟩:JAA)]:List JAA)::nn 31 ([])))⟩) ?_ ?_ ?_
  ·exact wk
  ·rintro⟨v8,v9⟩ K10 h;(conv=>whnf);refine .go ?_;exact AA wk h
  rintro next11 i7 x12 ⟨v8,v9⟩ K10 hii7 hxi7 hwi7 h hK13;(conv=>whnf);refine .go ?_;(conv=>whnf);refine A8 (CC hii7) ?_;(conv=>whnf);refine .go ?_;refine⟨rfl,A4 (f:=JAA.toD) hii7,?_⟩;refine⟨rfl,JAA.toD x12,hxi7,?_⟩;revert h;refine AD (fun (v14,v15)=>⟨yr 0 0::X::X::X::yO 5 JAA.toD v9::yi v1::X::yr 8 0::dd 11 (yO 17 JAA.toD ([(⟨0,99⟩:JAA),(⟨0,101⟩:JAA),(⟨0,102⟩:JAA),(⟨99,101⟩:JAA),(⟨99,103⟩:JAA),(⟨500,1⟩:JAA),(⟨65535,666⟩:JAA),(⟨65535,65282⟩:JAA)]:List JAA)::yi (([(⟨0,99⟩:JAA),(⟨0,101⟩:JAA),(⟨0,102⟩:JAA),(⟨99,101⟩:JAA),(⟨99,103⟩:JAA),(⟨500,1⟩:JAA),(⟨65535,666⟩:JAA),(⟨65535,65282⟩:JAA)]:List JAA).length:Int)::yi (i7:Int)::dd 19 (yb v14::dd 6 ([]))),yB (JAI.av v15)::nn 4 (yR 191 2 JAA.toD v9::N::N::yB (JAA.av x12)::nn 8 (yR 191 2 JAA.toD ([(⟨0,99⟩:JAA),(⟨0,101⟩:JAA),(⟨0,102⟩:JAA),(⟨99,101⟩:JAA),(⟨99,103⟩:JAA),(⟨500,1⟩:JAA),(⟨65535,666⟩:JAA),(⟨65535,65282⟩:JAA)]:List JAA)::nn 31 ([])))⟩) ?_ ?_
  ·intro k16 h;refine⟨_,rfl,?_⟩;refine⟨_,As _,?_⟩;refine⟨Int.natCast_nonneg _,_,rfl,?_⟩;refine⟨_,rfl,?_⟩;refine sJ h (fun h=>?_) fun h=>AA wk h;refine sJ h (fun h=>AA wk h) fun h=>?_;obtain⟨⟨v17,v18⟩,g19,h⟩:=AB h;refine⟨_,_,some [],AN g19,?_⟩;exact AA wk h
  rintro⟨v14,v15⟩ h;revert h;refine AD (fun v20=>⟨yr 0 0::X::X::X::yO 5 JAA.toD v20::yi v1::dd 13 (yO 17 JAA.toD ([(⟨0,99⟩:JAA),(⟨0,101⟩:JAA),(⟨0,102⟩:JAA),(⟨99,101⟩:JAA),(⟨99,103⟩:JAA),(⟨500,1⟩:JAA),(⟨65535,666⟩:JAA),(⟨65535,65282⟩:JAA)]:List JAA)::yi (([(⟨0,99⟩:JAA),(⟨0,101⟩:JAA),(⟨0,102⟩:JAA),(⟨99,101⟩:JAA),(⟨99,103⟩:JAA),(⟨500,1⟩:JAA),(⟨65535,666⟩:JAA),(⟨65535,65282⟩:JAA)]:List JAA).length:Int)::yi (i7:Int)::dd 26 ([])),yB (JAI.av v15)::nn 4 (yR 191 2 JAA.toD v20::nn 11 (yR 191 2 JAA.toD ([(⟨0,99⟩:JAA),(⟨0,101⟩:JAA),(⟨0,102⟩:JAA),(⟨99,101⟩:JAA),(⟨99,103⟩:JAA),(⟨500,1⟩:JAA),(⟨65535,666⟩:JAA),(⟨65535,65282⟩:JAA)]:List JAA)::nn 31 ([])))⟩) ?_ ?_
  ·intro k21 h;refine sJ h (fun h=>?_) fun h=>AA wk h;refine⟨rfl,?_⟩;obtain⟨v22,g23,h⟩:=AB h;refine⟨rfl,Ae (f:=JAA.toD) (g:=JAA.toD) g23,_,Af (f:=JAA.toD) g23,?_⟩;exact AA wk h
  rintro v20 h;refine⟨_,hwi7,?_⟩;exact hK13 _ _ wk h
 rintro⟨v4,v5⟩ h;(conv=>whnf);refine .inl ?_;(conv=>whnf);refine .inl ?_;refine⟨rfl,?_⟩;cases h;exact⟨rfl,rfl⟩
theorem LV {wl:Prop} {a0:JAI} {r:(List JAE)×JAI} (h:EU a0=some r):CallsOK (Wl wl) Tryz.prog 130 [.ref 0 0] [.box (JAI.av a0)] (.d (D.l 3 JAE.toD r.1)) [.box (JAI.av r.2)]:=by
 refine oK Tryz.f130 ⟨rfl,?_⟩;unfold EU at h;obtain⟨⟨v1,v2⟩,g3,h⟩:=AB h;refine⟨_,_,some [],AN g3,?_⟩;refine⟨([(⟨5,5,5⟩:JAE),(⟨99,0,0⟩:JAE),(⟨99,0,103⟩:JAE),(⟨99,1,102⟩:JAE),(⟨99,101,0⟩:JAE),(⟨99,102,104⟩:JAE),(⟨99,103,101⟩:JAE)]:List JAE).length,by first | exact X10 _ | rfl | (simp only[X10];omega),?_⟩;revert h;refine AD (fun v4=>⟨dd 4 (yO 5 JAE.toD v4::dd 33 ([])),yB (JAI.av v2)::nn 4 (yR 193 3 JAE.toD v4::nn 33 ([]))⟩) ?_ ?_
 ·intro k5 h;revert h;refine L6 16 193 3 .no JAE.toD rfl (fun i6 v7=>⟨dd 4 (yO 5 JAE.toD v7::yi v1::dd 12 (yO 16 JAE.toD ([(⟨5,5,5⟩:JAE),(⟨99,0,0⟩:JAE),(⟨99,0,103⟩:JAE),(⟨99,1,102⟩:JAE),(⟨99,101,0⟩:JAE),(⟨99,102,104⟩:JAE),(⟨99,103,101⟩:JAE)]:List JAE)::yi (([(⟨5,5,5⟩:JAE),(⟨99,0,0⟩:JAE),(⟨99,0,103⟩:JAE),(⟨99,1,102⟩:JAE),(⟨99,101,0⟩:JAE),(⟨99,102,104⟩:JAE),(⟨99,103,101⟩:JAE)]:List JAE).length:Int)::yi (i6:Int)::dd 17 ([]))),yB (JAI.av v2)::nn 4 (yR 193 3 JAE.toD v7::nn 10 (yR 193 3 JAE.toD ([(⟨5,5,5⟩:JAE),(⟨99,0,0⟩:JAE),(⟨99,0,103⟩:JAE),(⟨99,1,102⟩:JAE),(⟨99,101,0⟩:JAE),(⟨99,102,104⟩:JAE),(⟨99,103,101⟩:JAE)]:List JAE)::nn 22 ([])))⟩) ?_ ?_ ?_
  ·exact wk
  ·rintro v7 K8 h;(conv=>whnf);refine .go ?_;exact AA wk h
  rintro next9 i6 x10 v7 K8 hii6 hxi6 hwi6 h hK11;(conv=>whnf);refine .go ?_;(conv=>whnf);refine A8 (CC hii6) ?_;(conv=>whnf);refine .go ?_;refine⟨rfl,A4 (f:=JAE.toD) hii6,?_⟩;refine⟨rfl,JAE.toD x10,hxi6,?_⟩;refine⟨_,rfl,?_⟩;refine⟨_,As _,?_⟩;refine⟨Int.natCast_nonneg _,_,rfl,?_⟩;refine⟨_,rfl,?_⟩;revert h;refine AD (fun v12=>⟨dd 4 (yO 5 JAE.toD v12::yi v1::dd 12 (yO 16 JAE.toD ([(⟨5,5,5⟩:JAE),(⟨99,0,0⟩:JAE),(⟨99,0,103⟩:JAE),(⟨99,1,102⟩:JAE),(⟨99,101,0⟩:JAE),(⟨99,102,104⟩:JAE),(⟨99,103,101⟩:JAE)]:List JAE)::yi (([(⟨5,5,5⟩:JAE),(⟨99,0,0⟩:JAE),(⟨99,0,103⟩:JAE),(⟨99,1,102⟩:JAE),(⟨99,101,0⟩:JAE),(⟨99,102,104⟩:JAE),(⟨99,103,101⟩:JAE)]:List JAE).length:Int)::yi (i6:Int)::dd 17 ([]))),yB (JAI.av v2)::nn 4 (yR 193 3 JAE.toD v12::nn 10 (yR 193 3 JAE.toD ([(⟨5,5,5⟩:JAE),(⟨99,0,0⟩:JAE),(⟨99,0,103⟩:JAE),(⟨99,1,102⟩:JAE),(⟨99,101,0⟩:JAE),(⟨99,102,104⟩:JAE),(⟨99,103,101⟩:JAE)]:List JAE)::nn 22 ([])))⟩) ?_ ?_
  ·intro k13 h;refine sJ h (fun h=>?_) fun h=>AA wk h;refine⟨rfl,?_⟩;obtain⟨v14,g15,h⟩:=AB h;refine⟨rfl,Ae (f:=JAE.toD) (g:=JAE.toD) g15,_,Af (f:=JAE.toD) g15,?_⟩;exact AA wk h
  rintro v12 h;refine⟨_,hwi6,?_⟩;exact hK11 _ _ wk h
 rintro v4 h;(conv=>whnf);refine .inl ?_;(conv=>whnf);refine .inl ?_;refine⟨rfl,?_⟩;cases h;exact⟨rfl,rfl⟩
end Go.AX.Q33
end
section
namespace Go.AX.Q33
open Go Go.AX Go.Proofs
set_option maxRecDepth 100000
set_option maxHeartbeats 4000000
set_option linter.unusedVariables false
theorem LU {wl:Prop} {a0:JAI} {a1:Int} {a2:Bool} {r:JAF×JAI} (h:ET a0 a1 a2=some r):CallsOK (Wl wl) Tryz.prog 94 [.ref 0 0,AV.d (D.i a1),AV.d (D.b a2)] [.box (JAI.av a0)] (.d (JAF.toD r.1)) [.box (JAI.av r.2)]:=by
 refine okx 2 Tryz.f94 (by kernel_rfl) (by kernel_rfl) ⟨rfl,?_⟩;unfold ET at h;revert h;refine AD (fun _=>⟨yr 0 0::yi a1::yb a2::X::X::X::yr 7 0::X::X::X::AV.d (D.agg [D.i (-1),D.nil 2,D.b false,D.u64 (0:UInt64),D.u64 (0:UInt64),D.i (-1),D.i (-1),D.i (-1),D.nil 2,D.nil 3,D.nil 3])::dd 115 ([]),yB (JAI.av a0)::nn 6 (yB JAF.zv::nn 121 ([]))⟩) ?_ ?_
 ·intro k1 h;(conv=>whnf);refine inl Tryz.f51 127 (by kernel_rfl) (by kernel_rfl) ⟨rfl,?_⟩;exact AA wk h
 rintro _ h;obtain⟨⟨v2,v3⟩,g4,h⟩:=AB h;refine⟨_,_,some [],AN g4,?_⟩;obtain⟨⟨v5,v6⟩,g7,h⟩:=AB h;refine⟨_,_,some [],AN g7,?_⟩;revert h;refine AD (fun (v8,v9)=>⟨yr 0 0::yi a1::yb a2::X::X::X::yr 7 0::yr 8 0::yO 16 D.i v9::dd 117 ([]),yB (JAI.av v8)::nn 6 (yB JAF.zv::yB [yi v2,AV.d (D.nil 2),yb false,yu (0:UInt64),yu (0:UInt64),yi (-1),yi (-1),yi (-1),AV.d (D.nil 2),AV.d (D.nil 3),AV.d (D.nil 3)]::nn 7 (yR 3 1 D.i v9::nn 112 ([])))⟩) ?_ ?_
 ·intro k10 h;revert h;refine Ab (fun (v11,v12,v13)=>⟨yr 0 0::yi a1::yb a2::X::X::X::yr 7 0::yr 8 0::yO 16 D.i v13::yi v11::dd 116 ([]),yB (JAI.av v12)::nn 6 (yB JAF.zv::yB [yi v2,AV.d (D.nil 2),yb false,yu (0:UInt64),yu (0:UInt64),yi (-1),yi (-1),yi (-1),AV.d (D.nil 2),AV.d (D.nil 3),AV.d (D.nil 3)]::nn 7 (yR 3 1 D.i v13::nn 112 ([])))⟩) ?_ ?_
  ·exact wk
  rintro next14 ⟨v11,v12,v13⟩ K15 h hK16;(conv=>whnf);refine .go ?_;refine sJ h (fun h=>?_) fun h=>AA wk h;(conv=>whnf);refine .go ?_;obtain⟨⟨v17,v18⟩,g19,h⟩:=AB h;refine⟨_,_,some [],AN g19,?_⟩;obtain⟨v20,g21,h⟩:=AB h;refine⟨rfl,AL (f:=D.i) g21,?_⟩;refine⟨rfl,D.i v20,(AM (f:=D.i) g21),?_⟩;refine⟨rfl,?_⟩;obtain⟨v22,g23,h⟩:=AB h;refine⟨rfl,Ae (f:=D.i) (g:=D.i) g23,_,Af (f:=D.i) g23,?_⟩;refine⟨_,rfl,?_⟩;exact hK16 _ _ wk h
 rintro⟨v8,v9⟩ h;(conv=>whnf);refine .inr (.inl ?_);obtain⟨v24,g25,h⟩:=AB h;refine⟨_,_,some [],Mc g25,?_⟩;obtain⟨⟨v26,v27⟩,g28,h⟩:=AB h;refine⟨_,_,some [],AN g28,?_⟩;revert h;refine AD (fun (v29,v30)=>⟨yr 0 0::X::yb a2::X::X::X::yr 7 0::yr 8 0::dd 118 ([]),yB (JAI.av v29)::nn 6 (yB JAF.zv::yB [yi v2,AV.own 34 1,AV.d (D.b v24.V6),AV.d (D.u64 v24.Hi),AV.d (D.u64 v24.Lo),yi v30,yi (-1),yi (-1),AV.d (D.nil 2),AV.d (D.nil 3),AV.d (D.nil 3)]::nn 7 (yR 3 1 D.i v9::nn 17 (yB [yb false,yO 16 D.i v9]::nn 94 ([]))))⟩) ?_ ?_
 ·intro k31 h;refine sJ h (fun h=>?_) fun h=>AA wk h;obtain⟨⟨v32,v33⟩,g34,h⟩:=AB h;refine⟨_,_,some [],AN g34,?_⟩;exact AA wk h
 rintro⟨v29,v30⟩ h;obtain⟨⟨v35,v36⟩,g37,h⟩:=AB h;refine⟨_,_,some [],AN g37,?_⟩;revert h;refine AD (fun (v38,v39)=>⟨yr 0 0::X::yb a2::X::X::X::yr 7 0::yr 8 0::dd 118 ([]),yB (JAI.av v38)::nn 6 (yB JAF.zv::yB [yi v2,AV.own 34 1,AV.d (D.b v24.V6),AV.d (D.u64 v24.Hi),AV.d (D.u64 v24.Lo),yi v30,yi v39,yi (-1),AV.d (D.nil 2),AV.d (D.nil 3),AV.d (D.nil 3)]::nn 7 (yR 3 1 D.i v9::nn 17 (yB [yb false,yO 16 D.i v9]::nn 94 ([]))))⟩) ?_ ?_
 ·intro k40 h;refine sJ h (fun h=>?_) fun h=>AA wk h;obtain⟨⟨v41,v42⟩,g43,h⟩:=AB h;refine⟨_,_,some [],AN g43,?_⟩;exact AA wk h
 rintro⟨v38,v39⟩ h;obtain⟨⟨v44,v45⟩,g46,h⟩:=AB h;refine⟨_,_,some [],IC g46,?_⟩;obtain⟨⟨v47,v48⟩,g49,h⟩:=AB h;refine⟨_,_,some [],LV g49,?_⟩;obtain⟨⟨v50,v51⟩,g52,h⟩:=AB h;refine⟨_,_,some [],AN g52,?_⟩;(conv=>whnf);refine .go ?_;revert h;refine AD (fun (v53,v54,v55,v56,v57,v58,v59)=>⟨dd 6 (yr 7 0::yr 8 0::dd 118 ([])),yB (JAI.av v53)::nn 6 (yB JAF.zv::yA3 v2 v54 v55 v56 v57 v30 v39 v58 v44 v47 v59::nn 120 ([]))⟩) ?_ ?_
 ·intro k60 h;refine sJ h ?_ ?_<;>intro h
  ·obtain⟨⟨v61,v62⟩,g63,h⟩:=AB h;refine⟨_,_,some [],AN g63,?_⟩;refine⟨_,rfl,?_⟩;exact AA wk h
  revert h;refine AD (fun (v64,v65,v66,v67,v68,v69)=>⟨dd 6 (yr 7 0::yr 8 0::dd 118 ([])),yB (JAI.av v64)::nn 6 (yB JAF.zv::yA3 v2 v65 v66 v67 v68 v30 v39 (-1) v44 v47 v69::nn 120 ([]))⟩) ?_ ?_
  ·intro k70 h;refine sJ h ?_ ?_<;>intro h
   ·refine⟨rfl,?_⟩;obtain⟨v71,g72,h⟩:=AB h;refine⟨rfl,AL (f:=D.i) g72,?_⟩;obtain⟨v73,g74,h⟩:=AB h;have g74l:=GX g74;refine⟨rfl,rfl,D.i v71,(AM (f:=D.i) g72),?_⟩;refine⟨_,JW (f:=D.i) g74,?_⟩;exact AA wk h
   revert h;refine AD (fun (v75,v76,v77,v78,v79,v80)=>⟨dd 6 (yr 7 0::yr 8 0::dd 118 ([])),yB (JAI.av v75)::nn 6 (yB JAF.zv::yA3 v2 v76 v77 v78 v79 v30 v39 (-1) v44 v47 v80::nn 120 ([]))⟩) ?_ ?_
   ·intro k81 h;refine sJ h ?_ ?_<;>intro h
    ·(conv=>whnf);refine .inl ?_;refine⟨rfl,?_⟩;refine⟨rfl,?_⟩;refine⟨by simp,?_⟩;refine⟨rfl,?_⟩;exact AA wk h
    revert h;refine AD (fun (v82,v83,v84,v85,v86,v87)=>⟨dd 6 (yr 7 0::yr 8 0::dd 118 ([])),yB (JAI.av v82)::nn 6 (yB JAF.zv::yA3 v2 v83 v84 v85 v86 v30 v39 (-1) v44 v47 v87::nn 120 ([]))⟩) ?_ ?_
    ·intro k88 h;refine sJ h ?_ ?_<;>intro h
     ·(conv=>whnf);refine .inl (dO ?_);refine⟨rfl,?_⟩;refine⟨rfl,?_⟩;obtain⟨v89,g90,h⟩:=AB h;refine⟨rfl,Ae (f:=D.i) (g:=D.i) g90,_,Af (f:=D.i) g90,?_⟩;refine⟨rfl,?_⟩;(conv=>whnf);refine cO ?_;exact AA wk h
     revert h;refine AD (fun (v91,v92,v93,v94,v95,v96)=>⟨dd 6 (yr 7 0::yr 8 0::dd 118 ([])),yB (JAI.av v91)::nn 6 (yB JAF.zv::yA3 v2 v92 v93 v94 v95 v30 v39 (-1) v44 v47 v96::nn 120 ([]))⟩) ?_ ?_
     ·intro k97 h;refine sJ h ?_ ?_<;>intro h
      ·obtain⟨v98,g99,h⟩:=AB h;refine⟨_,_,some [],Mc g99,?_⟩;exact AA wk h
      revert h;refine AD (fun (v100,v101,v102)=>⟨dd 6 (yr 7 0::yr 8 0::dd 118 ([])),yB (JAI.av v100)::nn 6 (yB JAF.zv::yB [yi v2,y2 v101,AV.d (D.b v24.V6),AV.d (D.u64 v24.Hi),AV.d (D.u64 v24.Lo),yi v30,yi v39,yi (-1),y4 v44,y5 v47,y0 v102]::nn 120 ([]))⟩) ?_ ?_
      ·intro k103 h;refine sJ h ?_ ?_<;>intro h
       ·(conv=>whnf);refine .inl (dO ?_);refine⟨rfl,?_⟩;refine⟨rfl,?_⟩;obtain⟨v104,g105,h⟩:=AB h;refine⟨rfl,Ae (f:=D.i) (g:=D.i) g105,_,Af (f:=D.i) g105,?_⟩;refine⟨rfl,?_⟩;(conv=>whnf);refine cO ?_;exact AA wk h
       revert h;refine AD (fun (v106,v107,v108)=>⟨dd 6 (yr 7 0::yr 8 0::dd 118 ([])),yB (JAI.av v106)::nn 6 (yB JAF.zv::yB [yi v2,y2 v107,AV.d (D.b v24.V6),AV.d (D.u64 v24.Hi),AV.d (D.u64 v24.Lo),yi v30,yi v39,yi (-1),y4 v44,y5 v47,y0 v108]::nn 120 ([]))⟩) ?_ ?_
       ·intro k109 h;refine sJ h (fun h=>AA wk h) fun h=>?_;revert h;refine AD (fun (v110,v111)=>⟨dd 6 (yr 7 0::yr 8 0::dd 118 ([])),yB (JAI.av v110)::nn 6 (yB JAF.zv::yB [yi v2,AV.own 34 1,AV.d (D.b v24.V6),AV.d (D.u64 v24.Hi),AV.d (D.u64 v24.Lo),yi v30,yi v39,yi (-1),y4 v44,y5 v47,y0 v111]::nn 7 (yR 3 1 D.i v9::nn 17 (yB [yb false,yO 16 D.i v9]::nn 94 ([]))))⟩) ?_ ?_
        ·intro k112 h;refine sJ h (fun h=>?_) fun h=>AA wk h;obtain⟨⟨v113,v114⟩,g115,h⟩:=AB h;refine⟨_,_,some [],AN g115,?_⟩;refine⟨_,Bc _,?_⟩;(conv=>whnf);refine .inr (.inl ?_);exact AA wk h
        rintro⟨v110,v111⟩ h;exact AA wk h
       rintro⟨v106,v107,v108⟩ h;exact AA wk h
      rintro⟨v100,v101,v102⟩ h;exact AA wk h
     rintro⟨v91,v92,v93,v94,v95,v96⟩ h;exact AA wk h
    rintro⟨v82,v83,v84,v85,v86,v87⟩ h;exact AA wk h
   rintro⟨v75,v76,v77,v78,v79,v80⟩ h;exact AA wk h
  rintro⟨v64,v65,v66,v67,v68,v69⟩ h;exact AA wk h
 rintro⟨v53,v54,v55,v56,v57,v58,v59⟩ h;cases h;exact⟨rfl,rfl⟩
theorem LN {wl:Prop} {a0:JAI} {a1:Int} {r:JAP×JAI} (h:EP a0 a1=some r):CallsOK (Wl wl) Tryz.prog 53 [.ref 0 0,AV.d (D.i a1)] [.box (JAI.av a0)] (.d (JAP.toD r.1)) [.box (JAI.av r.2)]:=by
 refine oK Tryz.f53 ⟨rfl,?_⟩;unfold EP at h;obtain⟨⟨v1,v2⟩,g3,h⟩:=AB h;refine⟨_,_,some [],E5 g3,?_⟩;(conv=>whnf);refine .inl (dO ?_);obtain⟨⟨v4,v5⟩,g6,h⟩:=AB h;refine⟨_,_,LU g6,.inl rfl,?_⟩;(conv=>whnf);refine cO ?_;cases h;exact⟨rfl,rfl⟩
theorem KT {wl:Prop} {a0:JAI} {a1:Int} {r:JAH×JAI} (h:D8 a0 a1=some r):CallsOK (Wl wl) Tryz.prog 26 [.ref 0 0,AV.d (D.i a1)] [.box (JAI.av a0)] (.d (JAH.toD r.1)) [.box (JAI.av r.2)]:=by
 refine okx 2 Tryz.f26 (by kernel_rfl) (by kernel_rfl) ⟨rfl,?_⟩;unfold D8 at h;revert h;refine AD (fun _=>⟨yr 0 0::yi a1::X::X::yr 5 0::dd 5 (AV.d (D.agg [D.i (-1),D.nil 2,D.b false,D.u64 (0:UInt64),D.u64 (0:UInt64),D.i (-1),D.i (-1),D.i (-1),D.nil 2,D.nil 3,D.nil 3])::dd 55 ([])),yB (JAI.av a0)::nn 4 (yB JAH.zv::nn 63 ([]))⟩) ?_ ?_
 ·intro k1 h;(conv=>whnf);refine inl Tryz.f51 67 (by kernel_rfl) (by kernel_rfl) ⟨rfl,?_⟩;exact AA wk h
 rintro _ h;obtain⟨⟨v2,v3⟩,g4,h⟩:=AB h;refine⟨_,_,some [],AN g4,?_⟩;revert h;refine AD (fun (v5,v6)=>⟨yr 0 0::yi a1::X::X::yr 5 0::yr 6 0::dd 60 ([]),yB (JAI.av v5)::nn 4 (yB JAH.zv::yB [yO 29 JAD.toD v6,yi (-1),AV.d (D.nil 2),yb false,yu (0:UInt64),yu (0:UInt64),yi (-1),yi (-1),yi (-1),AV.d (D.nil 2),AV.d (D.nil 3),AV.d (D.nil 3),AV.d (D.nil 4)]::nn 22 (yR 73 4 JAD.toD v6::nn 39 ([])))⟩) ?_ ?_
 ·intro k7 h;revert h;refine Ab (fun (v8,v9,v10)=>⟨yr 0 0::yi a1::X::X::yr 5 0::yr 6 0::yi v8::dd 59 ([]),yB (JAI.av v9)::nn 4 (yB JAH.zv::yB [yO 29 JAD.toD v10,yi (-1),AV.d (D.nil 2),yb false,yu (0:UInt64),yu (0:UInt64),yi (-1),yi (-1),yi (-1),AV.d (D.nil 2),AV.d (D.nil 3),AV.d (D.nil 3),AV.d (D.nil 4)]::nn 22 (yR 73 4 JAD.toD v10::nn 39 ([])))⟩) ?_ ?_
  ·exact wk
  rintro next11 ⟨v8,v9,v10⟩ K12 h hK13;revert h;refine AD (fun (v14,v15)=>⟨yr 0 0::yi a1::X::X::yr 5 0::yr 6 0::yi v8::dd 13 (yb v14::dd 45 ([])),yB (JAI.av v15)::nn 4 (yB JAH.zv::yB [yO 29 JAD.toD v10,yi (-1),AV.d (D.nil 2),yb false,yu (0:UInt64),yu (0:UInt64),yi (-1),yi (-1),yi (-1),AV.d (D.nil 2),AV.d (D.nil 3),AV.d (D.nil 3),AV.d (D.nil 4)]::nn 22 (yR 73 4 JAD.toD v10::nn 39 ([])))⟩) ?_ ?_
  ·intro k16 h;refine sJ h (fun h=>?_) fun h=>AA wk h;obtain⟨⟨v17,v18⟩,g19,h⟩:=AB h;refine⟨_,_,some [],AN g19,?_⟩;exact AA wk h
  rintro⟨v14,v15⟩ h;(conv=>whnf);refine .go ?_;refine sJ h (fun h=>?_) fun h=>AA wk h;(conv=>whnf);refine .go ?_;(conv=>whnf);refine .inl (dO ?_);obtain⟨⟨v20,v21⟩,g22,h⟩:=AB h;refine⟨_,_,E5 g22,.inl rfl,?_⟩;refine⟨rfl,?_⟩;obtain⟨v23,g24,h⟩:=AB h;refine⟨rfl,Ae (f:=JAD.toD) (g:=JAD.toD) g24,_,Af (f:=JAD.toD) g24,?_⟩;(conv=>whnf);refine cO ?_;refine⟨_,rfl,?_⟩;exact hK13 _ _ wk h
 rintro⟨v5,v6⟩ h;obtain⟨⟨v25,v26⟩,g27,h⟩:=AB h;refine⟨_,_,some [],AN g27,?_⟩;revert h;refine AD (fun (v28,v29,v30,v31,v32,v33,v34,v35,v36,v37,v38,v39,v40)=>⟨dd 4 (yr 5 0::yr 6 0::dd 60 ([])),yB (JAI.av v28)::nn 4 (yB JAH.zv::yB [yO 29 JAD.toD v6,yi v29,y2 v30,yb v31,yu v32,yu v33,yi v34,yi v35,yi v36,y4 v37,y5 v38,y0 v39,yO 42 JAD.toD v40]::nn 22 (yR 73 4 JAD.toD v6::nn 12 (yR 73 4 JAD.toD v40::nn 26 ([]))))⟩) ?_ ?_
 ·intro k41 h;refine sJ h (fun h=>?_) fun h=>AA wk h;obtain⟨⟨v42,v43⟩,g44,h⟩:=AB h;refine⟨_,_,some [],LN g44,?_⟩;obtain⟨⟨v45,v46⟩,g47,h⟩:=AB h;refine⟨_,_,some [],AN g47,?_⟩;revert h;refine AD (fun (v48,v49)=>⟨dd 4 (yr 5 0::yr 6 0::dd 60 ([])),yB (JAI.av v48)::nn 4 (yB JAH.zv::yB [yO 29 JAD.toD v6,AV.d (D.i v42.JAF.Origin),AV.d (D.l 2 JAC.toD v42.JAF.Path),AV.d (D.b v42.JAF.Next.V6),AV.d (D.u64 v42.JAF.Next.Hi),AV.d (D.u64 v42.JAF.Next.Lo),AV.d (D.i v42.JAF.MED),AV.d (D.i v42.JAF.Pref),AV.d (D.i v42.JAF.OTC),AV.d (D.l 2 JAA.toD v42.JAF.Communities),AV.d (D.l 3 JAE.toD v42.JAF.JAE),AV.d (D.l 3 JAB.toD v42.JAF.Other),yO 42 JAD.toD v49]::nn 22 (yR 73 4 JAD.toD v6::nn 12 (yR 73 4 JAD.toD v49::nn 26 ([]))))⟩) ?_ ?_
  ·intro k50 h;revert h;refine Ab (fun (v51,v52,v53)=>⟨yr 0 0::X::X::X::yr 5 0::yr 6 0::X::yr 8 0::yi v51::dd 57 ([]),yB (JAI.av v52)::nn 4 (yB JAH.zv::yB [yO 29 JAD.toD v6,AV.d (D.i v42.JAF.Origin),AV.d (D.l 2 JAC.toD v42.JAF.Path),AV.d (D.b v42.JAF.Next.V6),AV.d (D.u64 v42.JAF.Next.Hi),AV.d (D.u64 v42.JAF.Next.Lo),AV.d (D.i v42.JAF.MED),AV.d (D.i v42.JAF.Pref),AV.d (D.i v42.JAF.OTC),AV.d (D.l 2 JAA.toD v42.JAF.Communities),AV.d (D.l 3 JAE.toD v42.JAF.JAE),AV.d (D.l 3 JAB.toD v42.JAF.Other),yO 42 JAD.toD v53]::N::yB (JAP.av v42)::nn 20 (yR 73 4 JAD.toD v6::nn 12 (yR 73 4 JAD.toD v53::nn 26 ([]))))⟩) ?_ ?_
   ·exact wk
   rintro next54 ⟨v51,v52,v53⟩ K55 h hK56;(conv=>whnf);refine .go ?_;refine sJ h (fun h=>?_) fun h=>AA wk h;(conv=>whnf);refine .go ?_;obtain⟨⟨v57,v58⟩,g59,h⟩:=AB h;refine⟨_,_,some [],E5 g59,?_⟩;revert h;refine AD (fun v60=>⟨yr 0 0::X::X::X::yr 5 0::yr 6 0::X::yr 8 0::yi v51::dd 57 ([]),yB (JAI.av v58)::nn 4 (yB JAH.zv::yB [yO 29 JAD.toD v6,AV.d (D.i v42.JAF.Origin),AV.d (D.l 2 JAC.toD v42.JAF.Path),AV.d (D.b v42.JAF.Next.V6),AV.d (D.u64 v42.JAF.Next.Hi),AV.d (D.u64 v42.JAF.Next.Lo),AV.d (D.i v42.JAF.MED),AV.d (D.i v42.JAF.Pref),AV.d (D.i v42.JAF.OTC),AV.d (D.l 2 JAA.toD v42.JAF.Communities),AV.d (D.l 3 JAE.toD v42.JAF.JAE),AV.d (D.l 3 JAB.toD v42.JAF.Other),yO 42 JAD.toD v60]::N::yB (JAP.av v42)::nn 20 (yR 73 4 JAD.toD v6::nn 12 (yR 73 4 JAD.toD v60::nn 26 ([]))))⟩) ?_ ?_
   ·intro k61 h;refine sJ h (fun h=>?_) fun h=>AA wk h;refine⟨rfl,?_⟩;obtain⟨v62,g63,h⟩:=AB h;refine⟨rfl,Ae (f:=JAD.toD) (g:=JAD.toD) g63,_,Af (f:=JAD.toD) g63,?_⟩;exact AA wk h
   rintro v60 h;refine⟨_,rfl,?_⟩;exact hK56 _ _ wk h
  rintro⟨v48,v49⟩ h;exact AA wk h
 rintro⟨v28,v29,v30,v31,v32,v33,v34,v35,v36,v37,v38,v39,v40⟩ h;(conv=>whnf);refine .inl ?_;refine⟨rfl,?_⟩;refine⟨rfl,?_⟩;cases h;exact⟨rfl,rfl⟩
theorem NM {wl:Prop} {a0:JAI} {r:JAK×JAI} (h:E8 a0=some r):CallsOK (Wl wl) Tryz.prog 9 [.ref 0 0] [.box (JAI.av a0)] (.d (JAK.toD r.1)) [.box (JAI.av r.2)]:=by
 refine oK Tryz.f9 ⟨rfl,?_⟩;unfold E8 at h;obtain⟨⟨v1,v2⟩,g3,h⟩:=AB h;refine⟨_,_,some [],AN g3,?_⟩;(conv=>whnf);refine .go ?_;(conv=>whnf);refine .go ?_;refine sJ h ?_ ?_<;>intro h
 ·cases h;exact⟨rfl,rfl⟩
 (conv=>whnf);refine .go ?_;refine sJ h ?_ ?_<;>intro h
 ·(conv=>whnf);refine .inl ?_;refine⟨rfl,?_⟩;cases h;exact⟨rfl,rfl⟩
 (conv=>whnf);refine .go ?_;refine sJ h ?_ ?_<;>intro h
 ·obtain⟨_,g4,h⟩:=AB h;refine⟨Vf g4 (X29 rfl),D.u8 (0:UInt8),rfl,(List.map D.u8 (List.replicate (Int.toNat 4) (0:UInt8))),List.map_replicate.symm,?_⟩;(conv=>whnf);refine .inl ?_;refine⟨rfl,?_⟩;cases h;exact⟨rfl,rfl⟩
 (conv=>whnf);refine .go ?_;refine sJ h ?_ ?_<;>intro h
 ·(conv=>whnf);refine .inl ?_;refine⟨rfl,?_⟩;cases h;exact⟨rfl,rfl⟩
 obtain⟨⟨v5,v6⟩,g7,h⟩:=AB h;refine⟨_,_,some [],KT g7,?_⟩;obtain⟨⟨v8,v9⟩,g10,h⟩:=AB h;refine⟨_,_,some [],Of g10,?_⟩;revert h;refine AD (fun (v11,v12)=>⟨yr 0 0::X::yr 3 0::y1 v8::dd 31 (yb v11::dd 13 ([])),yB (JAI.av v12)::N::N::yB JAK.zv::nn 46 ([])⟩) ?_ ?_
 ·intro k13 h;obtain⟨⟨v14,v15⟩,g16,h⟩:=AB h;refine⟨_,_,some [],AN g16,?_⟩;refine sJ h (fun h=>?_) fun h=>AA wk h;refine⟨v8.length,X10 _,?_⟩;exact AA wk h
 rintro⟨v11,v12⟩ h;revert h;refine AD (fun (v17,v18)=>⟨X::X::yr 3 0::y1 v17::dd 45 ([]),yB (JAI.av v18)::N::N::yB JAK.zv::nn 46 ([])⟩) ?_ ?_
 ·intro k19 h;refine sJ h (fun h=>?_) fun h=>AA wk h;obtain⟨_,g20,h⟩:=AB h;refine⟨DZ (g:=D.u8) g20,?_⟩;refine⟨v8.length,by first | exact X10 _ | rfl | (simp only[X10];omega),?_⟩;obtain⟨⟨v21,v22⟩,g23,h⟩:=AB h;refine⟨_,_,some [],AN g23,?_⟩;obtain⟨⟨v24,v25⟩,g26,h⟩:=AB h;refine⟨_,_,some [],AN g26,?_⟩;refine⟨_,Bc _,?_⟩;obtain⟨v27,g28,h⟩:=AB h;refine⟨rfl,AL (f:=D.u8) g28,?_⟩;obtain⟨v29,g30,h⟩:=AB h;have g30l:=GX g30;refine⟨rfl,rfl,D.u8 v27,(AM (f:=D.u8) g28),?_⟩;refine⟨_,JW (f:=D.u8) g30,?_⟩;exact AA wk h
 rintro⟨v17,v18⟩ h;cases h;exact⟨rfl,rfl⟩
theorem Jv {wl:Prop} {a0:JAL} {r:Int} (h:FX a0=some r):CallsOK (Wl wl) Tryz.prog 11 [AV.d (JAL.toD a0)] [] (.d (D.i r)) []:=by
 refine oK Tryz.f11 ⟨rfl,?_⟩;unfold FX at h;refine⟨_,rfl,?_⟩;cases h;exact⟨rfl,rfl⟩
theorem Hr {wl:Prop} {a0:List Int} {a1:List Int} {r:Bool} (h:C0 a0 a1=some r):CallsOK (Wl wl) Tryz.prog 54 [AV.d (D.l 1 D.i a0),AV.d (D.l 1 D.i a1)] [] (.d (D.b r)) []:=by
 refine oK Tryz.f54 ⟨rfl,?_⟩;unfold C0 at h;refine⟨a0.length,X10 _,?_⟩;refine⟨a1.length,X10 _,?_⟩;(conv=>whnf);refine .go ?_;refine sJ h ?_ ?_<;>intro h
 ·cases h;exact⟨rfl,rfl⟩
 refine⟨a0.length,X10 _,?_⟩;revert h;refine AD (fun _=>⟨dd 26 ([]),nn 26 ([])⟩) ?_ ?_
 ·intro k1 h;revert h;refine AW 11 1 D.i rfl (fun i2 _=>⟨y3 a0::y3 a1::dd 9 (y3 a0::yi (a0.length:Int)::yi (i2:Int)::dd 12 ([])),nn 26 ([])⟩) ?_ ?_ ?_
  ·exact wk
  ·rintro _ K3 h;(conv=>whnf);refine .go ?_;(conv=>whnf);refine A9 CP ?_;exact AA wk h
  rintro next4 i2 x5 _ K3 hii2 hxi2 hwi2 h hK6;(conv=>whnf);refine .go ?_;(conv=>whnf);refine A8 (CC hii2) ?_;(conv=>whnf);refine .go ?_;(conv=>whnf);refine .inl (dO ?_);refine⟨A4 (f:=D.i) hii2,D.i x5,hxi2,rfl,?_⟩;obtain⟨v7,g8,h⟩:=AB h;refine⟨AL (f:=D.i) g8,D.i v7,AM (f:=D.i) g8,rfl,?_⟩;(conv=>whnf);refine cO ?_;(conv=>whnf);refine .go ?_;refine sJ h ?_ ?_<;>intro h
  ·cases h;exact⟨rfl,rfl⟩
  refine⟨_,hwi2,?_⟩;exact hK6 _ _ wk h
 rintro _ h;cases h;exact⟨rfl,rfl⟩
theorem Qp {wl:Prop} {a0:JAM} {a1:JAM} {r:Bool} (h:HL a0 a1=some r):CallsOK (Wl wl) Tryz.prog 27 [AV.d (JAM.toD a0),AV.d (JAM.toD a1)] [] (.d (D.b r)) []:=by
 refine oK Tryz.f27 ⟨rfl,?_⟩;unfold HL at h;revert h;refine AD (fun v1=>⟨X::X::yr 2 0::yr 3 0::dd 51 (yb v1::dd 18 ([])),N::N::yB (JAM.av a0)::yB (JAM.av a1)::nn 70 ([])⟩) ?_ ?_
 ·intro k2 h;refine sJ h (fun h=>AA wk h) fun h=>?_;refine sJ h (fun h=>AA wk h) fun h=>?_;refine sJ h (fun h=>AA wk h) fun h=>?_;refine sJ h (fun h=>AA wk h) fun h=>?_;refine sJ h (fun h=>AA wk h) fun h=>?_;obtain⟨v3,g4,h⟩:=AB h;refine⟨_,_,some [],Hr g4,?_⟩;refine sJ h (fun h=>AA wk h) fun h=>?_;refine⟨a0.JAO.length,X10 _,?_⟩;refine⟨a1.JAO.length,X10 _,?_⟩;exact AA wk h
 rintro v1 h;(conv=>whnf);refine .go ?_;refine sJ h ?_ ?_<;>intro h
 ·cases h;exact⟨rfl,rfl⟩
 refine⟨a0.JAO.length,X10 _,?_⟩;revert h;refine AD (fun _=>⟨dd 74 ([]),nn 74 ([])⟩) ?_ ?_
 ·intro k5 h;revert h;refine AW 57 2 JAO.toD rfl (fun i6 _=>⟨X::X::yr 2 0::yr 3 0::dd 53 (AV.d (D.l 2 JAO.toD a0.JAO)::yi (a0.JAO.length:Int)::yi (i6:Int)::dd 14 ([])),N::N::yB (JAM.av a0)::yB (JAM.av a1)::nn 70 ([])⟩) ?_ ?_ ?_
  ·exact wk
  ·rintro _ K7 h;(conv=>whnf);refine .go ?_;(conv=>whnf);refine A9 CP ?_;exact AA wk h
  rintro next8 i6 x9 _ K7 hii6 hxi6 hwi6 h hK10;(conv=>whnf);refine .go ?_;(conv=>whnf);refine A8 (CC hii6) ?_;(conv=>whnf);refine .go ?_;(conv=>whnf);refine .inl (dO ?_);refine⟨A4 (f:=JAO.toD) hii6,JAO.toD x9,hxi6,rfl,?_⟩;obtain⟨v11,g12,h⟩:=AB h;refine⟨AL (f:=JAO.toD) g12,JAO.toD v11,AM (f:=JAO.toD) g12,rfl,?_⟩;(conv=>whnf);refine cO ?_;(conv=>whnf);refine .go ?_;refine sJ h ?_ ?_<;>intro h
  ·cases h;exact⟨rfl,rfl⟩
  refine⟨_,hwi6,?_⟩;exact hK10 _ _ wk h
 rintro _ h;cases h;exact⟨rfl,rfl⟩
end Go.AX.Q33
end
section
namespace Go.AX.Q33
open Go Go.AX Go.Proofs
set_option maxRecDepth 100000
set_option maxHeartbeats 4000000
set_option linter.unusedVariables false
theorem LD {wl:Prop} {a0:JAF} {a1:JAF} {r:Bool} (h:DC a0 a1=some r):CallsOK (Wl wl) Tryz.prog 55 [AV.d (JAF.toD a0),AV.d (JAF.toD a1)] [] (.d (D.b r)) []:=by
 refine oK Tryz.f55 ⟨rfl,?_⟩;unfold DC at h;revert h;refine AD (fun v1=>⟨X::X::yr 2 0::yr 3 0::dd 73 (yb v1::dd 124 ([])),N::N::yB (JAF.av a0)::yB (JAF.av a1)::nn 198 ([])⟩) ?_ ?_
 ·intro k2 h;refine sJ h (fun h=>AA wk h) fun h=>?_;refine sJ h (fun h=>AA wk h) fun h=>?_;refine sJ h (fun h=>AA wk h) fun h=>?_;refine sJ h (fun h=>AA wk h) fun h=>?_;refine sJ h (fun h=>AA wk h) fun h=>?_;refine⟨a0.Path.length,X10 _,?_⟩;refine⟨a1.Path.length,X10 _,?_⟩;refine sJ h (fun h=>AA wk h) fun h=>?_;refine⟨a0.Communities.length,X10 _,?_⟩;refine⟨a1.Communities.length,X10 _,?_⟩;refine sJ h (fun h=>AA wk h) fun h=>?_;refine⟨a0.JAE.length,X10 _,?_⟩;refine⟨a1.JAE.length,X10 _,?_⟩;refine sJ h (fun h=>AA wk h) fun h=>?_;refine⟨a0.Other.length,X10 _,?_⟩;refine⟨a1.Other.length,X10 _,?_⟩;exact AA wk h
 rintro v1 h;(conv=>whnf);refine .go ?_;refine sJ h ?_ ?_<;>intro h
 ·cases h;exact⟨rfl,rfl⟩
 refine⟨a0.Path.length,X10 _,?_⟩;revert h;refine AD (fun _=>⟨X::X::yr 2 0::yr 3 0::dd 198 ([]),N::N::yB (JAF.av a0)::yB (JAF.av a1)::nn 198 ([])⟩) ?_ ?_
 ·intro k3 h;revert h;refine AW 79 2 JAC.toD rfl (fun i4 _=>⟨X::X::yr 2 0::yr 3 0::dd 75 (AV.d (D.l 2 JAC.toD a0.Path)::yi (a0.Path.length:Int)::yi (i4:Int)::dd 120 ([])),N::N::yB (JAF.av a0)::yB (JAF.av a1)::nn 198 ([])⟩) ?_ ?_ ?_
  ·exact wk
  ·rintro _ K5 h;(conv=>whnf);refine .go ?_;(conv=>whnf);refine A9 CP ?_;exact AA wk h
  rintro next6 i4 x7 _ K5 hii4 hxi4 hwi4 h hK8;(conv=>whnf);refine .go ?_;(conv=>whnf);refine A8 (CC hii4) ?_;(conv=>whnf);refine .go ?_;revert h;refine AD (fun v9=>⟨X::X::yr 2 0::yr 3 0::dd 75 (AV.d (D.l 2 JAC.toD a0.Path)::yi (a0.Path.length:Int)::yi (i4:Int)::dd 30 (yb v9::dd 89 ([]))),N::N::yB (JAF.av a0)::yB (JAF.av a1)::nn 198 ([])⟩) ?_ ?_
  ·intro k10 h;(conv=>whnf);refine .inl (dO ?_);refine⟨A4 (f:=JAC.toD) hii4,JAC.toD x7,hxi4,rfl,?_⟩;obtain⟨v11,g12,h⟩:=AB h;refine⟨AL (f:=JAC.toD) g12,JAC.toD v11,AM (f:=JAC.toD) g12,rfl,?_⟩;refine sJ h ?_ ?_<;>intro h
   ·(conv=>whnf);refine cO ?_;exact AA wk h
   refine⟨A4 (f:=JAC.toD) hii4,JAC.toD x7,hxi4,rfl,?_⟩;obtain⟨v13,g14,h⟩:=AB h;refine⟨AL (f:=JAC.toD) g14,JAC.toD v13,AM (f:=JAC.toD) g14,rfl,?_⟩;obtain⟨v15,g16,h⟩:=AB h;refine⟨_,_,Hr g16,.inl rfl,?_⟩;(conv=>whnf);refine cO ?_;exact AA wk h
  rintro v9 h;(conv=>whnf);refine .go ?_;refine sJ h ?_ ?_<;>intro h
  ·cases h;exact⟨rfl,rfl⟩
  refine⟨_,hwi4,?_⟩;exact hK8 _ _ wk h
 rintro _ h;refine⟨a0.Communities.length,X10 _,?_⟩;revert h;refine AD (fun _=>⟨X::X::yr 2 0::yr 3 0::dd 198 ([]),N::N::yB (JAF.av a0)::yB (JAF.av a1)::nn 198 ([])⟩) ?_ ?_
 ·intro k17 h;revert h;refine AW 115 2 JAA.toD rfl (fun i18 _=>⟨X::X::yr 2 0::yr 3 0::dd 111 (AV.d (D.l 2 JAA.toD a0.Communities)::yi (a0.Communities.length:Int)::yi (i18:Int)::dd 84 ([])),N::N::yB (JAF.av a0)::yB (JAF.av a1)::nn 198 ([])⟩) ?_ ?_ ?_
  ·exact wk
  ·rintro _ K19 h;(conv=>whnf);refine .go ?_;(conv=>whnf);refine A9 CP ?_;exact AA wk h
  rintro next20 i18 x21 _ K19 hii18 hxi18 hwi18 h hK22;(conv=>whnf);refine .go ?_;(conv=>whnf);refine A8 (CC hii18) ?_;(conv=>whnf);refine .go ?_;(conv=>whnf);refine .inl (dO ?_);refine⟨A4 (f:=JAA.toD) hii18,JAA.toD x21,hxi18,rfl,?_⟩;obtain⟨v23,g24,h⟩:=AB h;refine⟨AL (f:=JAA.toD) g24,JAA.toD v23,AM (f:=JAA.toD) g24,rfl,?_⟩;(conv=>whnf);refine cO ?_;(conv=>whnf);refine .go ?_;refine sJ h ?_ ?_<;>intro h
  ·cases h;exact⟨rfl,rfl⟩
  refine⟨_,hwi18,?_⟩;exact hK22 _ _ wk h
 rintro _ h;refine⟨a0.JAE.length,X10 _,?_⟩;revert h;refine AD (fun _=>⟨X::X::yr 2 0::yr 3 0::dd 198 ([]),N::N::yB (JAF.av a0)::yB (JAF.av a1)::nn 198 ([])⟩) ?_ ?_
 ·intro k25 h;revert h;refine AW 133 3 JAE.toD rfl (fun i26 _=>⟨X::X::yr 2 0::yr 3 0::dd 129 (AV.d (D.l 3 JAE.toD a0.JAE)::yi (a0.JAE.length:Int)::yi (i26:Int)::dd 66 ([])),N::N::yB (JAF.av a0)::yB (JAF.av a1)::nn 198 ([])⟩) ?_ ?_ ?_
  ·exact wk
  ·rintro _ K27 h;(conv=>whnf);refine .go ?_;(conv=>whnf);refine A9 CP ?_;exact AA wk h
  rintro next28 i26 x29 _ K27 hii26 hxi26 hwi26 h hK30;(conv=>whnf);refine .go ?_;(conv=>whnf);refine A8 (CC hii26) ?_;(conv=>whnf);refine .go ?_;(conv=>whnf);refine .inl (dO ?_);refine⟨A4 (f:=JAE.toD) hii26,JAE.toD x29,hxi26,rfl,?_⟩;obtain⟨v31,g32,h⟩:=AB h;refine⟨AL (f:=JAE.toD) g32,JAE.toD v31,AM (f:=JAE.toD) g32,rfl,?_⟩;(conv=>whnf);refine cO ?_;(conv=>whnf);refine .go ?_;refine sJ h ?_ ?_<;>intro h
  ·cases h;exact⟨rfl,rfl⟩
  refine⟨_,hwi26,?_⟩;exact hK30 _ _ wk h
 rintro _ h;refine⟨a0.Other.length,X10 _,?_⟩;revert h;refine AD (fun _=>⟨dd 202 ([]),nn 202 ([])⟩) ?_ ?_
 ·intro k33 h;revert h;refine AW 151 3 JAB.toD rfl (fun i34 _=>⟨X::X::yr 2 0::yr 3 0::dd 147 (AV.d (D.l 3 JAB.toD a0.Other)::yi (a0.Other.length:Int)::yi (i34:Int)::dd 48 ([])),N::N::yB (JAF.av a0)::yB (JAF.av a1)::nn 198 ([])⟩) ?_ ?_ ?_
  ·exact wk
  ·rintro _ K35 h;(conv=>whnf);refine .go ?_;(conv=>whnf);refine A9 CP ?_;exact AA wk h
  rintro next36 i34 x37 _ K35 hii34 hxi34 hwi34 h hK38;(conv=>whnf);refine .go ?_;(conv=>whnf);refine A8 (CC hii34) ?_;(conv=>whnf);refine .go ?_;revert h;refine AD (fun v39=>⟨X::X::yr 2 0::yr 3 0::dd 147 (AV.d (D.l 3 JAB.toD a0.Other)::yi (a0.Other.length:Int)::yi (i34:Int)::dd 46 (yb v39::X::[])),N::N::yB (JAF.av a0)::yB (JAF.av a1)::nn 198 ([])⟩) ?_ ?_
  ·intro k40 h;(conv=>whnf);refine .inl (dO ?_);refine⟨A4 (f:=JAB.toD) hii34,JAB.toD x37,hxi34,rfl,?_⟩;obtain⟨v41,g42,h⟩:=AB h;refine⟨AL (f:=JAB.toD) g42,JAB.toD v41,AM (f:=JAB.toD) g42,rfl,?_⟩;refine sJ h ?_ ?_<;>intro h
   ·(conv=>whnf);refine cO ?_;exact AA wk h
   refine⟨A4 (f:=JAB.toD) hii34,JAB.toD x37,hxi34,rfl,?_⟩;obtain⟨v43,g44,h⟩:=AB h;refine⟨AL (f:=JAB.toD) g44,JAB.toD v43,AM (f:=JAB.toD) g44,rfl,?_⟩;refine sJ h ?_ ?_<;>intro h
   ·(conv=>whnf);refine cO ?_;exact AA wk h
   refine⟨A4 (f:=JAB.toD) hii34,JAB.toD x37,hxi34,rfl,?_⟩;refine⟨x37.Data,rfl,?_⟩;obtain⟨v45,g46,h⟩:=AB h;refine⟨AL (f:=JAB.toD) g46,JAB.toD v45,AM (f:=JAB.toD) g46,rfl,?_⟩;refine⟨v45.Data,rfl,?_⟩;(conv=>whnf);refine cO ?_;exact AA wk h
  rintro v39 h;(conv=>whnf);refine .go ?_;refine sJ h ?_ ?_<;>intro h
  ·cases h;exact⟨rfl,rfl⟩
  refine⟨_,hwi34,?_⟩;exact hK38 _ _ wk h
 rintro _ h;cases h;exact⟨rfl,rfl⟩
theorem KQ {wl:Prop} {a0:JAH} {a1:JAH} {r:Bool} (h:D3 a0 a1=some r):CallsOK (Wl wl) Tryz.prog 28 [AV.d (JAH.toD a0),AV.d (JAH.toD a1)] [] (.d (D.b r)) []:=by
 refine oK Tryz.f28 ⟨rfl,?_⟩;unfold D3 at h;revert h;refine AD (fun v1=>⟨X::X::yr 2 0::yr 3 0::dd 26 (yb v1::dd 36 ([])),N::N::yB (JAH.av a0)::yB (JAH.av a1)::nn 63 ([])⟩) ?_ ?_
 ·intro k2 h;refine⟨a0.Withdraw.length,X10 _,?_⟩;refine⟨a1.Withdraw.length,X10 _,?_⟩;refine sJ h (fun h=>AA wk h) fun h=>?_;refine⟨a0.Announce.length,X10 _,?_⟩;refine⟨a1.Announce.length,X10 _,?_⟩;refine sJ h (fun h=>AA wk h) fun h=>?_;obtain⟨v3,g4,h⟩:=AB h;refine⟨_,_,some [],LD g4,?_⟩;exact AA wk h
 rintro v1 h;(conv=>whnf);refine .go ?_;refine sJ h ?_ ?_<;>intro h
 ·cases h;exact⟨rfl,rfl⟩
 refine⟨a0.Withdraw.length,X10 _,?_⟩;revert h;refine AD (fun _=>⟨X::X::yr 2 0::yr 3 0::dd 63 ([]),N::N::yB (JAH.av a0)::yB (JAH.av a1)::nn 63 ([])⟩) ?_ ?_
 ·intro k5 h;revert h;refine AW 32 4 JAD.toD rfl (fun i6 _=>⟨X::X::yr 2 0::yr 3 0::dd 28 (AV.d (D.l 4 JAD.toD a0.Withdraw)::yi (a0.Withdraw.length:Int)::yi (i6:Int)::dd 32 ([])),N::N::yB (JAH.av a0)::yB (JAH.av a1)::nn 63 ([])⟩) ?_ ?_ ?_
  ·exact wk
  ·rintro _ K7 h;(conv=>whnf);refine .go ?_;(conv=>whnf);refine A9 CP ?_;exact AA wk h
  rintro next8 i6 x9 _ K7 hii6 hxi6 hwi6 h hK10;(conv=>whnf);refine .go ?_;(conv=>whnf);refine A8 (CC hii6) ?_;(conv=>whnf);refine .go ?_;(conv=>whnf);refine .inl (dO ?_);refine⟨A4 (f:=JAD.toD) hii6,JAD.toD x9,hxi6,rfl,?_⟩;obtain⟨v11,g12,h⟩:=AB h;refine⟨AL (f:=JAD.toD) g12,JAD.toD v11,AM (f:=JAD.toD) g12,rfl,?_⟩;(conv=>whnf);refine cO ?_;(conv=>whnf);refine .go ?_;refine sJ h ?_ ?_<;>intro h
  ·cases h;exact⟨rfl,rfl⟩
  refine⟨_,hwi6,?_⟩;exact hK10 _ _ wk h
 rintro _ h;refine⟨a0.Announce.length,X10 _,?_⟩;revert h;refine AD (fun _=>⟨dd 67 ([]),nn 67 ([])⟩) ?_ ?_
 ·intro k13 h;revert h;refine AW 50 4 JAD.toD rfl (fun i14 _=>⟨X::X::yr 2 0::yr 3 0::dd 46 (AV.d (D.l 4 JAD.toD a0.Announce)::yi (a0.Announce.length:Int)::yi (i14:Int)::dd 14 ([])),N::N::yB (JAH.av a0)::yB (JAH.av a1)::nn 63 ([])⟩) ?_ ?_ ?_
  ·exact wk
  ·rintro _ K15 h;(conv=>whnf);refine .go ?_;(conv=>whnf);refine A9 CP ?_;exact AA wk h
  rintro next16 i14 x17 _ K15 hii14 hxi14 hwi14 h hK18;(conv=>whnf);refine .go ?_;(conv=>whnf);refine A8 (CC hii14) ?_;(conv=>whnf);refine .go ?_;(conv=>whnf);refine .inl (dO ?_);refine⟨A4 (f:=JAD.toD) hii14,JAD.toD x17,hxi14,rfl,?_⟩;obtain⟨v19,g20,h⟩:=AB h;refine⟨AL (f:=JAD.toD) g20,JAD.toD v19,AM (f:=JAD.toD) g20,rfl,?_⟩;(conv=>whnf);refine cO ?_;(conv=>whnf);refine .go ?_;refine sJ h ?_ ?_<;>intro h
  ·cases h;exact⟨rfl,rfl⟩
  refine⟨_,hwi14,?_⟩;exact hK18 _ _ wk h
 rintro _ h;cases h;exact⟨rfl,rfl⟩
theorem Q1 {wl:Prop} {a0:List JAJ} {a1:List JAJ} {r:Bool} (h:He a0 a1=some r):CallsOK (Wl wl) Tryz.prog 12 [AV.d (D.l 24 JAJ.toD a0),AV.d (D.l 24 JAJ.toD a1)] [] (.d (D.b r)) []:=by
 refine oK Tryz.f12 ⟨rfl,?_⟩;unfold He at h;refine⟨a0.length,X10 _,?_⟩;refine⟨a1.length,X10 _,?_⟩;(conv=>whnf);refine .go ?_;refine sJ h ?_ ?_<;>intro h
 ·cases h;exact⟨rfl,rfl⟩
 refine⟨a0.length,X10 _,?_⟩;revert h;refine AD (fun _=>⟨dd 69 ([]),nn 69 ([])⟩) ?_ ?_
 ·intro k1 h;revert h;refine AW 13 24 JAJ.toD rfl (fun i2 _=>⟨y7 a0::y7 a1::dd 11 (y7 a0::yi (a0.length:Int)::yi (i2:Int)::dd 53 ([])),nn 69 ([])⟩) ?_ ?_ ?_
  ·exact wk
  ·rintro _ K3 h;(conv=>whnf);refine .go ?_;(conv=>whnf);refine A9 CP ?_;exact AA wk h
  rintro next4 i2 x5 _ K3 hii2 hxi2 hwi2 h hK6;(conv=>whnf);refine .go ?_;(conv=>whnf);refine A8 (CC hii2) ?_;(conv=>whnf);refine .go ?_;(conv=>whnf);refine .inl (dO ?_);refine⟨A4 (f:=JAJ.toD) hii2,JAJ.toD x5,hxi2,rfl,?_⟩;obtain⟨v7,g8,h⟩:=AB h;refine⟨AL (f:=JAJ.toD) g8,JAJ.toD v7,AM (f:=JAJ.toD) g8,rfl,?_⟩;(conv=>whnf);refine cO ?_;revert h;refine AD (fun v9=>⟨y7 a0::y7 a1::dd 11 (y7 a0::yi (a0.length:Int)::yi (i2:Int)::dd 51 (yb v9::X::[])),nn 69 ([])⟩) ?_ ?_
  ·intro k10 h;refine sJ h (fun h=>AA wk h) fun h=>?_;refine sJ h (fun h=>AA wk h) fun h=>?_;refine sJ h (fun h=>AA wk h) fun h=>?_;refine sJ h (fun h=>AA wk h) fun h=>?_;obtain⟨v11,g12,h⟩:=AB h;refine⟨_,_,some [],Qp g12,?_⟩;refine sJ h (fun h=>AA wk h) fun h=>?_;obtain⟨v13,g14,h⟩:=AB h;refine⟨_,_,some [],KQ g14,?_⟩;exact AA wk h
  rintro v9 h;(conv=>whnf);refine .go ?_;refine sJ h ?_ ?_<;>intro h
  ·cases h;exact⟨rfl,rfl⟩
  refine⟨_,hwi2,?_⟩;exact hK6 _ _ wk h
 rintro _ h;cases h;exact⟨rfl,rfl⟩
theorem H8 {wl:Prop} {a0:List UInt8} {r:(List UInt8)×(List UInt8)×Bool} (h:EN a0=some r):CallsOK (Wl wl) Tryz.prog 58 [AV.d (D.l 1 D.u8 a0)] [] (.tup [.d (D.l 1 D.u8 r.1),.d (D.l 1 D.u8 r.2.1),.d (D.b r.2.2)]) []:=by
 refine oK Tryz.f58 ⟨rfl,?_⟩;unfold EN at h;refine⟨a0.length,X10 _,?_⟩;(conv=>whnf);refine .go ?_;refine sJ h ?_ ?_<;>intro h
 ·cases h;exact⟨rfl,rfl⟩
 (conv=>whnf);refine .inl (dO ?_);obtain⟨v1,g2,h⟩:=AB h;refine⟨AL (f:=D.u8) g2,D.u8 v1,AM (f:=D.u8) g2,rfl,?_⟩;refine⟨_,A3 v1,?_⟩;refine⟨by decide,_,rfl,?_⟩;obtain⟨v3,g4,h⟩:=AB h;refine⟨AL (f:=D.u8) g4,D.u8 v3,AM (f:=D.u8) g4,rfl,?_⟩;refine⟨_,A3 v3,?_⟩;refine⟨_,rfl,?_⟩;(conv=>whnf);refine cO ?_;refine⟨a0.length,X10 _,?_⟩;refine⟨_,rfl,?_⟩;(conv=>whnf);refine .go ?_;refine sJ h ?_ ?_<;>intro h
 ·cases h;exact⟨rfl,rfl⟩
 (conv=>whnf);refine .inl (dO ?_);refine⟨_,rfl,?_⟩;obtain⟨v5,g6,h⟩:=AB h;refine⟨BX (f:=D.u8) g6,_,BI (f:=D.u8) g6,?_⟩;refine⟨_,rfl,?_⟩;obtain⟨v7,g8,h⟩:=AB h;refine⟨CH (f:=D.u8) g8,_,CJ (f:=D.u8) g8,?_⟩;(conv=>whnf);refine cO ?_;cases h;exact⟨rfl,rfl⟩
theorem JV {wl:Prop} {a0:List UInt8} {r:(List JAB)×Int} (h:Ek a0=some r):CallsOK (Wl wl) Tryz.prog 59 [AV.d (D.l 1 D.u8 a0)] [] (.tup [.d (D.l 3 JAB.toD r.1),.d (D.i r.2)]) []:=by
 refine oK Tryz.f59 ⟨rfl,?_⟩;unfold Ek at h;revert h;refine AD (fun v1=>⟨dd 4 (yO 4 JAB.toD v1::dd 59 ([])),nn 4 (yR 144 3 JAB.toD v1::nn 59 ([]))⟩) ?_ ?_
 ·intro k2 h;revert h;refine Ab (fun (v3,v4)=>⟨y1 v3::X::X::X::yO 4 JAB.toD v4::dd 59 ([]),nn 4 (yR 144 3 JAB.toD v4::nn 59 ([]))⟩) ?_ ?_
  ·exact wk
  rintro next5 ⟨v3,v4⟩ K6 h hK7;refine⟨v3.length,X10 _,?_⟩;(conv=>whnf);refine .go ?_;refine sJ h (fun h=>?_) fun h=>AA wk h;(conv=>whnf);refine .go ?_;obtain⟨v8,g9,h⟩:=AB h;refine⟨AL (f:=D.u8) g9,D.u8 v8,AM (f:=D.u8) g9,rfl,?_⟩;refine⟨_,Bc _,?_⟩;revert h;refine AD (fun v10=>⟨y1 v3::X::X::X::yO 4 JAB.toD v4::yi v10::dd 58 ([]),nn 4 (yR 144 3 JAB.toD v4::nn 59 ([]))⟩) ?_ ?_
  ·intro k11 h;exact sJ h (fun h=>AA wk h) fun h=>AA wk h
  rintro v10 h;refine⟨v3.length,X10 _,?_⟩;(conv=>whnf);refine .go ?_;refine sJ h ?_ ?_<;>intro h
  ·(conv=>whnf);refine .inl ?_;refine⟨rfl,?_⟩;cases h;exact⟨rfl,rfl⟩
  obtain⟨v12,g13,h⟩:=AB h;refine⟨AL (f:=D.u8) g13,D.u8 v12,AM (f:=D.u8) g13,rfl,?_⟩;refine⟨_,A3 v12,?_⟩;revert h;refine AD (fun v14=>⟨y1 v3::X::X::X::yO 4 JAB.toD v4::yi v10::yi v14::dd 57 ([]),nn 4 (yR 144 3 JAB.toD v4::nn 59 ([]))⟩) ?_ ?_
  ·intro k15 h;refine sJ h (fun h=>?_) fun h=>AA wk h;refine⟨by decide,_,rfl,?_⟩;obtain⟨v16,g17,h⟩:=AB h;refine⟨AL (f:=D.u8) g17,D.u8 v16,AM (f:=D.u8) g17,rfl,?_⟩;refine⟨_,A3 v16,?_⟩;refine⟨_,rfl,?_⟩;exact AA wk h
  rintro v14 h;refine⟨v3.length,X10 _,?_⟩;refine⟨_,rfl,?_⟩;(conv=>whnf);refine .go ?_;refine sJ h ?_ ?_<;>intro h
  ·(conv=>whnf);refine .inl ?_;refine⟨rfl,?_⟩;cases h;exact⟨rfl,rfl⟩
  (conv=>whnf);refine .inl (dO ?_);obtain⟨v18,g19,h⟩:=AB h;refine⟨AL (f:=D.u8) g19,D.u8 v18,AM (f:=D.u8) g19,rfl,?_⟩;refine⟨_,Bc _,?_⟩;refine⟨_,A3 (Dh ((BitVec.ofInt 8 (v18.toNat:Int) &&& BitVec.ofInt 8 224).toNat:Int)),?_⟩;obtain⟨v20,g21,h⟩:=AB h;refine⟨AL (f:=D.u8) g21,D.u8 v20,AM (f:=D.u8) g21,rfl,?_⟩;refine⟨_,A3 v20,?_⟩;refine⟨_,rfl,?_⟩;obtain⟨v22,g23,h⟩:=AB h;refine⟨BX (f:=D.u8) g23,_,BI (f:=D.u8) g23,?_⟩;obtain⟨_,g24,h⟩:=AB h;refine⟨DZ (g:=D.u8) g24,?_⟩;(conv=>whnf);refine .inl ?_;refine⟨rfl,?_⟩;refine⟨rfl,?_⟩;obtain⟨v25,g26,h⟩:=AB h;refine⟨rfl,Ae (f:=JAB.toD) (g:=JAB.toD) g26,_,Af (f:=JAB.toD) g26,?_⟩;(conv=>whnf);refine cO ?_;refine⟨_,rfl,?_⟩;obtain⟨v27,g28,h⟩:=AB h;refine⟨CH (f:=D.u8) g28,_,CJ (f:=D.u8) g28,?_⟩;exact hK7 _ _ wk h
 rintro v1 h;(conv=>whnf);refine .inl ?_;refine⟨rfl,?_⟩;cases h;exact⟨rfl,rfl⟩
theorem H9 {wl:Prop} {a0:List JAB} {a1:Int} {r:JAB×Int} (h:FI a0 a1=some r):CallsOK (Wl wl) Tryz.prog 61 [AV.d (D.l 3 JAB.toD a0),AV.d (D.i a1)] [] (.tup [.d (JAB.toD r.1),.d (D.i r.2)]) []:=by
 refine oK Tryz.f61 ⟨rfl,?_⟩;unfold FI at h;refine⟨a0.length,X10 _,?_⟩;revert h;refine AD (fun (v1,v2)=>⟨dd 4 (yr 4 0::X::yr 6 0::yi v1::dd 20 ([])),nn 4 (yB JAB.zv::N::yB (JAB.av v2)::nn 21 ([]))⟩) ?_ ?_
 ·intro k3 h;revert h;refine AW 10 3 JAB.toD rfl (fun i4 (v5,v6)=>⟨X::yi a1::X::X::yr 4 0::X::yr 6 0::yi v5::X::X::y0 a0::yi (a0.length:Int)::yi (i4:Int)::dd 15 ([]),nn 4 (yB JAB.zv::N::yB (JAB.av v6)::nn 21 ([]))⟩) ?_ ?_ ?_
  ·exact wk
  ·rintro⟨v5,v6⟩ K7 h;(conv=>whnf);refine .go ?_;(conv=>whnf);refine A9 CP ?_;exact AA wk h
  rintro next8 i4 x9 ⟨v5,v6⟩ K7 hii4 hxi4 hwi4 h hK10;(conv=>whnf);refine .go ?_;(conv=>whnf);refine A8 (CC hii4) ?_;(conv=>whnf);refine .go ?_;refine⟨A4 (f:=JAB.toD) hii4,JAB.toD x9,hxi4,rfl,?_⟩;revert h;refine AD (fun (v11,v12)=>⟨X::yi a1::X::X::yr 4 0::X::yr 6 0::yi v11::X::X::y0 a0::yi (a0.length:Int)::yi (i4:Int)::dd 15 ([]),nn 4 (yB JAB.zv::N::yB (JAB.av v12)::nn 21 ([]))⟩) ?_ ?_
  ·intro k13 h;refine sJ h (fun h=>?_) fun h=>AA wk h;refine⟨_,rfl,?_⟩;revert h;refine AD (fun v14=>⟨X::yi a1::X::X::yr 4 0::X::yr 6 0::yi (AK (v5 + 1))::X::X::y0 a0::yi (a0.length:Int)::yi (i4:Int)::dd 15 ([]),nn 4 (yB JAB.zv::N::yB (JAB.av v14)::nn 21 ([]))⟩) ?_ ?_
   ·intro k15 h;exact sJ h (fun h=>AA wk h) fun h=>AA wk h
   rintro v14 h;exact AA wk h
  rintro⟨v11,v12⟩ h;refine⟨_,hwi4,?_⟩;exact hK10 _ _ wk h
 rintro⟨v1,v2⟩ h;cases h;exact⟨rfl,rfl⟩
end Go.AX.Q33
end
