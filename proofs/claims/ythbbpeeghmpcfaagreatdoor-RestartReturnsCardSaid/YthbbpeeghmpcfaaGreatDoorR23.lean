/-
  Texts of one proof, packed.
-/
import Derived.Test.YthbbpeeghmpcfaaGreatDoorR22
set_option linter.all false
set_option maxRecDepth 100000
set_option maxHeartbeats 4000000
open List renaming length_map→X1,length_append→X2,length_cons→X3,mem_singleton→X11,length_drop→X14,length_take→X15,mem_cons_of_mem→X16,length_replicate→X17,length_set→X18,length_singleton→X19,mem_append→X20
open Option.some renaming injEq→X21,inj→X22
open Bool renaming and_eq_true→X24,eq_iff_iff→X25
open Option renaming bind→Xx,getD→Xdb
open Int renaming toNat→Xa0,fdiv→Xc4,tmod→Xes
open BitVec renaming ofInt→Xa3
open List renaming range'→Xex
open UInt64 renaming ofNat→Xao
open UInt8 renaming ofNat→Xbw
section
namespace Go.AX.Q33
open Go Go.AX
def b4 (n:Nat):O S:=[Xbw (n/16777216),Xbw (n/65536),Xbw (n/256),Xbw n]
def SI {x:j}{k n:Nat}(F:n=8*k)(H:k<8)(J:x.toNat<4294967296):Ak ((AZ (Xc4 (x.toNat:Int) (2^(min (Xa0 (n:Int)) 64)))).toNat:Int)=Xbw (x.toNat/2^n):=by rw[fd,Xem (by omega),DD,Bd];congr 1;rw[Xar,Xbf];exact Nat.lt_of_le_of_lt (Nat.div_le_self _ _) (by omega)
def Addr.four {a:Addr}(h:a.ok=true)(F:a.V6=false):a.Hi.toNat=0/\a.Lo.toNat<4294967296:=by
 unfold Addr.ok at h;rw[F,Xc2] at h;cases h1:((a.Hi.toNat:Int)==0)
 ·rw[h1] at h;simp at h
 rw[h1,Xe1,Xy] at h;simp only[Xbh] at h1;omega
def kT {a:Addr}(h:a.ok=true)(P:a.V6=false):BJ a=some (b4 a.Lo.toNat):=by
 obtain⟨_,F⟩:=Addr.four h P;unfold BJ;rw[EE,AA,h,Xa1 (by decide),AB,P,Xa1 (by decide)];show AC _ _=_;rw[AB];have H:=Yd 3 24 (by omega) rfl (by omega);have J:=Yd 2 16 (by omega) rfl (by omega);have K:=Yd 1 8 (by omega) rfl (by omega);have M:=Yd 0 0 (by omega) rfl (by omega);have H:min (Xa0 ((AZ (8*((AZ (Xes 3 8)).toNat:Int))).toNat:Int)) 64=min (Xa0 ((24:Nat):Int)) 64:=H;have J:min (Xa0 ((AZ (8*((AZ (Xes 2 8)).toNat:Int))).toNat:Int)) 64=min (Xa0 ((16:Nat):Int)) 64:=J;have K:min (Xa0 ((AZ (8*((AZ (Xes 1 8)).toNat:Int))).toNat:Int)) 64=min (Xa0 ((8:Nat):Int)) 64:=K;have M:min (Xa0 ((AZ (8*((AZ (Xes 0 8)).toNat:Int))).toNat:Int)) 64=min (Xa0 ((0:Nat):Int)) 64:=M;refine (Bq (λs:Int×O S=>(s.1=3\/s.1=2\/s.1=1\/s.1=0\/s.1=-1)/\s.2.length+(s.1+1).toNat<=4) (λs=>(s.1+1).toNat) (λs=>some (s.2++(b4 a.Lo.toNat).drop (3-s.1).toNat)) ?_ xv (AG (4-1),[]) ?_ ?_).trans ?_
 ·rintro next ⟨i,l⟩ ⟨Q,U⟩ hk
  dsimp only at Q U⊢;rcases Q with rfl|rfl|rfl|rfl|rfl
  ·rw[Xa2 (by decide),AB,Xa1 (by decide),H];show Xx _ _=_;rw[SI (n:=24) (k:=3) rfl (by omega) F,AD (by decide) (by simp only[X19];omega),AA,AK (by omega),hk _ ⟨by simp,by simp only[X2,X19];omega⟩ (by simp only;omega)];simp[b4]
  ·rw[Xa2 (by decide),AB,Xa1 (by decide),J];show Xx _ _=_;rw[SI (n:=16) (k:=2) rfl (by omega) F,AD (by decide) (by simp only[X19];omega),AA,AK (by omega),hk _ ⟨by simp,by simp only[X2,X19];omega⟩ (by simp only;omega)];simp[b4]
  ·rw[Xa2 (by decide),AB,Xa1 (by decide),K];show Xx _ _=_;rw[SI (n:=8) (k:=1) rfl (by omega) F,AD (by decide) (by simp only[X19];omega),AA,AK (by omega),hk _ ⟨by simp,by simp only[X2,X19];omega⟩ (by simp only;omega)];simp[b4]
  ·rw[Xa2 (by decide),AB,Xa1 (by decide),M];show Xx _ _=_;rw[SI (n:=0) (k:=0) rfl (by omega) F,AD (by decide) (by simp only[X19];omega),AA,AK (by omega),hk _ ⟨by simp,by simp only[X2,X19];omega⟩ (by simp only;omega)];simp[b4]
  rw[Xa1 (by decide)];simp[b4]
 ·dsimp only;rw[AK (by omega)];exact⟨.inl rfl,by decide⟩
 ·dsimp only;rw[AK (by omega)];exact BE (by omega)
 dsimp only;rw[AK (by omega)];rfl
def IV (a:gH):I:=!a.Next.V6&&!(Addr.zn a.Next ⟨false,0,0⟩)
def G (a:gH)(k:Int):C (O S):=
 if k=1 then (if a.o3≠-1 then some [Ak a.o3] else none) else
 if k=2 then (if a.o3≠-1\/a.Path≠[] then some (Hu a.Path) else none) else
 if k=3 then (if IV a=true then some (b4 a.Next.Lo.toNat) else none) else
 if k=4 then (if a.AF≠-1 then some (w4 a.AF) else none) else
 if k=5 then (if a.xL≠-1 then some (w4 a.xL) else none) else
 if k=8 then (if a.fT≠[] then some (a.fT.flatMap PR) else none) else
 if k=32 then (if a.iX≠[] then some (a.iX.flatMap KV) else none) else
 if k=35 then (if a.zy≠-1 then some (w4 a.zy) else none) else none
def Mq (a:gH)(k:Int):O gL:=match G a k with
 | some b=>[⟨fl k,k,b⟩]
 | none=>[]
def Uv (l:O gL)(k:Int):O gL:=l.flatMap λx=>if (x.gE==k)=true then [x] else []
def Kc (a:gH):O gL:=(Xex 0 256).flatMap λ(k:Nat)=>Mq a k++Uv a.oE k
def PW {a:gH}{k:Int}(h:fl k=0):G a k=none:=by
 rcases E2 k with ⟨_,e⟩|⟨_,e⟩|⟨_,e⟩|⟨_,e⟩|⟨_,e⟩|⟨_,e⟩|⟨_,e⟩|⟨_,e⟩|⟨e1,e2,e3,e4,F,H,J,K,_⟩;iterate 8 (rw[e] at h;exact absurd h (by decide))
 unfold G;rw[Xa1 e1,Xa1 e2,Xa1 e3,Xa1 e4,Xa1 F,Xa1 H,Xa1 J,Xa1 K]
def SG {l:O gL}{k:Int}{y:gL}:y∈Uv l k↔y∈l/\y.gE=k:=by
 unfold Uv;rw[Xc9];constructor
 ·rintro⟨x,F,h⟩;split at h
  ·rename_i H;rw[X11] at h;subst h;exact⟨F,by simpa using H⟩
  simp at h
 rintro⟨J,e⟩;exact⟨y,J,by rw[Xa2 (by simpa using e)];simp⟩
def FT {a:gH}{k:Int}{y:gL}:y∈Mq a k ↔∃b,G a k=some b/\y=⟨fl k,k,b⟩:=by
 unfold Mq;cases G a k with
 | none=>simp
 | some b=>simp
def Oh {a:gH}{k:Int}{y:gL}(h:y∈Mq a k):y.gE=k:=by obtain⟨b,_,rfl⟩:=FT.1 h;rfl
def JY {a:gH}(F:Ek a.oE=true){y:gL}:y∈Kc a↔(∃k,y∈Mq a k)\/y∈a.oE:=by
 unfold Kc;simp only[Xc9,List.mem_range'_1,X20];constructor
 ·rintro⟨k,J,h|h⟩
  ·exact .inl ⟨_,h⟩
  exact .inr (SG.1 h).1
 rintro (⟨k,h⟩|h)
 ·obtain⟨b,H,_⟩:=FT.1 h;have J:0<=k/\k<256:=by
   rcases E2 k with ⟨e,_⟩|⟨e,_⟩|⟨e,_⟩|⟨e,_⟩|⟨e,_⟩|⟨e,_⟩|⟨e,_⟩|⟨e,_⟩|e;iterate 8 omega
   rw[PW e.2.2.2.2.2.2.2.2] at H;cases H
  refine⟨k.toNat,by omega,.inl ?_⟩;rw[show ((k.toNat:Nat):Int)=k by omega];exact h
 unfold Ek at F;rw[X24,Xa6] at F;have:=F.1 y h;simp only[okO,X24,Xy] at this;exact⟨y.gE.toNat,by omega,.inr (SG.2 ⟨h,by omega⟩)⟩
def DL {l:O gL}(F:Ek l=true){x:gL}(h:x∈l):Lb x.gE=true/\1<=x.gE/\x.gE<=255/\x.Flags=224/\x.Data.length<=255:=by unfold Ek at F;rw[X24,Xa6] at F;have:=F.1 x h;simp only[okO,X24,Xy] at this;exact⟨this.2.1,this.1.1,this.1.2,this.2.2.1,this.2.2.2⟩
def XH {t:Int}(h:Lb t=true):fl t=0:=by simp only[Lb,X24,Xy] at h;exact h.1
def KT {l:O gL}(F:Ek l=true):l.Pairwise λa b=>JT a b=true:=by unfold Ek at F;rw[X24] at F;exact (Jj tg).1 F.2
def j9 {a:gH}(P:Ek a.oE=true):(Kc a).Pairwise λa b=>Gb K3 a b=true:=by
 unfold Kc;rw[Xe9];have Q :∀(k:Nat) y,y∈Mq a k++Uv a.oE k->y.gE=k:=by
  intro k y F;rcases X20.1 F with h|h
  ·exact Oh h
  exact (SG.1 h).2
 constructor
 ·intro k _;rw[Xbj];refine⟨?_,?_,?_⟩
  ·unfold Mq;split
   ·exact List.pairwise_singleton _ _
   exact .nil
  ·unfold Uv;rw[Xe9];refine⟨λx _=>QP,(KT P).imp λ{p q} J x H y F=>?_⟩;have e1:p.gE=k:=by
    split at H
    ·simpa using ‹(p.gE==(k:Int))=true›
    simp at H
   have e2:q.gE=k:=by
    split at F
    ·simpa using ‹(q.gE==(k:Int))=true›
    simp at F
   simp only[JT,Xy] at J;omega
  intro x H y F;obtain⟨b,U,_⟩:=FT.1 H;obtain⟨K,M⟩:=SG.1 F;have:=XH (DL P K).1;rw[M] at this;rw[PW this] at U;cases U
 refine (List.pairwise_lt_range' (s:=0) (n:=256)).imp λ{p q} J x H y F=>?_;have e1:=Q p x H;have e2:=Q q y F;rw[mV];simp only[JT,Xy];omega
def XX {a:gH}(F:Ek a.oE=true):K7 (Kc a):=(j9 F).imp λ{p q} h e=>by rw[mV] at h;simp only[JT,Xy] at h;omega
def WR3 (a0:gH)(Y:O (Int×(O S))):Option ((O gL)×Int):=
 AC (τ:=I) (λZ=>if (!(Addr.zn a0.Next (⟨false,(0:j),(0:j)⟩:Addr))) then Z (cond true (!a0.Next.V6) false) else Z false
 ) λaq=>
 AC (τ:=(O (Int×(O S)))) (λa6=>if aq then Xx (BJ a0.Next) λar=>a6 (A3 Y 3 ar) else a6 Y
 ) λa7=>
 AC (τ:=(O (Int×(O S)))) (λa8=>if (decide (a0.AF≥0)) then Xx (AP a0.AF 4) λau=>a8 (A3 a7 4 au) else a8 a7
 ) λaa=>
 AC (τ:=(O (Int×(O S)))) (λab=>if (decide (a0.xL≥0)) then Xx (AP a0.xL 4) λax=>ab (A3 aa 5 ax) else ab aa
 ) λae=>
 AC (τ:=(O (Int×(O S)))×(O S)) (λay=>Xx (Ch ((A1 ae 8).isNone=true)) λ_=>AL (σ:=(O (Int×(O S)))×(O S)) (λ(v39,v40)=>ay (v39,v40) ) (λH (af:oF) i43 (v39,v40)=>Xx (AP af.A 2) λaz=>Xx (gO (α:=S) 1 v40 az) λba=>Xx (AP af.B 2) λbb=>Xx (gO (α:=S) 1 ba bb) λag=>H ((A3 v39 8 ag),ag) ) a0.fT 0 (ae,[])
 ) λ(ah,v49)=>
 AC (τ:=(O (Int×(O S)))×(O S)) (λbc=>Xx (Ch ((A1 ah 32).isNone=true)) λ_=>AL (σ:=(O (Int×(O S)))×(O S)) (λ(v51,Q)=>bc (v51,Q) ) (λJ (U:iX) i55 (v51,Q)=>Xx (AP U.A 4) λbd=>Xx (gO (α:=S) 1 Q bd) λbe=>Xx (AP U.B 4) λbf=>Xx (gO (α:=S) 1 be bf) λbg=>Xx (AP U.C 4) λbh=>Xx (gO (α:=S) 1 bg bh) λai=>J ((A3 v51 32 ai),ai) ) a0.iX 0 (ah,[])
 ) λ(aj,v63)=>
 AC (τ:=(O (Int×(O S)))) (λak=>if (decide (a0.zy≥0)) then Xx (AP a0.zy 4) λbi=>ak (A3 aj 35 bi) else ak aj
 ) λal=>
 AC (τ:=(O gL)) (λbj=>Ad (σ:=Int×(O gL)) (λK (F,v70)=>if (decide (F<256)) then AC (τ:=(O gL)) (λbk=>Xx (some (Xdb (A1 al F) [])) λan=>Xx (some (Option.isSome (A1 al F))) λbl=>AC (τ:=(O gL)) (λao=>if bl then Xx (BH F) λbm=>Xx (gO (α:=S) 1 [] an) λ_=>Xx (gO (α:=gL) 40 v70 ([(⟨bm,F,an⟩:gL)]:O gL)) λbn=>ao bn else ao v70 ) λbo=>AC (τ:=(O gL)) (λbp=>AL (σ:=(O gL)) (λM=>bp M ) (λP (V:gL) i82 M=>AC (τ:=(O gL)) (λap=>if (V.gE==F) then Xx (gO (α:=S) 1 [] V.Data) λ_=>Xx (gO (α:=gL) 40 M ([{ V with gE:=F }]:O gL)) λbq=>ap bq else ap M ) λbr=>P br ) a0.oE 0 bo ) λbu=>bk bu ) λbw=>K ((AG (F+1)),bw) else bj v70 ) xv (0,[])
 ) λbx=>
 some (bx,0)
def WR4 (a0:gH)(Y:O (Int×(O S))):Option ((O gL)×Int):=
 AC (τ:=(O (Int×(O S)))) (λZ=>if (decide (a0.AF≥0)) then Xx (AP a0.AF 4) λan=>Z (A3 Y 4 an) else Z Y
 ) λa6=>
 AC (τ:=(O (Int×(O S)))) (λa7=>if (decide (a0.xL≥0)) then Xx (AP a0.xL 4) λao=>a7 (A3 a6 5 ao) else a7 a6
 ) λa8=>
 AC (τ:=(O (Int×(O S)))×(O S)) (λap=>Xx (Ch ((A1 a8 8).isNone=true)) λ_=>AL (σ:=(O (Int×(O S)))×(O S)) (λ(v39,v40)=>ap (v39,v40) ) (λH (aa:oF) i43 (v39,v40)=>Xx (AP aa.A 2) λaq=>Xx (gO (α:=S) 1 v40 aq) λar=>Xx (AP aa.B 2) λau=>Xx (gO (α:=S) 1 ar au) λab=>H ((A3 v39 8 ab),ab) ) a0.fT 0 (a8,[])
 ) λ(ae,v49)=>
 AC (τ:=(O (Int×(O S)))×(O S)) (λax=>Xx (Ch ((A1 ae 32).isNone=true)) λ_=>AL (σ:=(O (Int×(O S)))×(O S)) (λ(v51,Q)=>ax (v51,Q) ) (λJ (U:iX) i55 (v51,Q)=>Xx (AP U.A 4) λay=>Xx (gO (α:=S) 1 Q ay) λaz=>Xx (AP U.B 4) λba=>Xx (gO (α:=S) 1 az ba) λbb=>Xx (AP U.C 4) λbc=>Xx (gO (α:=S) 1 bb bc) λaf=>J ((A3 v51 32 af),af) ) a0.iX 0 (ae,[])
 ) λ(ag,v63)=>
 AC (τ:=(O (Int×(O S)))) (λah=>if (decide (a0.zy≥0)) then Xx (AP a0.zy 4) λbd=>ah (A3 ag 35 bd) else ah ag
 ) λai=>
 AC (τ:=(O gL)) (λbe=>Ad (σ:=Int×(O gL)) (λK (F,v70)=>if (decide (F<256)) then AC (τ:=(O gL)) (λbf=>Xx (some (Xdb (A1 ai F) [])) λaj=>Xx (some (Option.isSome (A1 ai F))) λbg=>AC (τ:=(O gL)) (λak=>if bg then Xx (BH F) λbh=>Xx (gO (α:=S) 1 [] aj) λ_=>Xx (gO (α:=gL) 40 v70 ([(⟨bh,F,aj⟩:gL)]:O gL)) λbi=>ak bi else ak v70 ) λbj=>AC (τ:=(O gL)) (λbk=>AL (σ:=(O gL)) (λM=>bk M ) (λP (V:gL) i82 M=>AC (τ:=(O gL)) (λal=>if (V.gE==F) then Xx (gO (α:=S) 1 [] V.Data) λ_=>Xx (gO (α:=gL) 40 M ([{ V with gE:=F }]:O gL)) λbl=>al bl else al M ) λbm=>P bm ) a0.oE 0 bj ) λbn=>bf bn ) λbo=>K ((AG (F+1)),bo) else be v70 ) xv (0,[])
 ) λbp=>
 some (bp,0)
def WR5 (a0:gH)(Y:O (Int×(O S))):Option ((O gL)×Int):=
 AC (τ:=(O (Int×(O S)))) (λZ=>if (decide (a0.xL≥0)) then Xx (AP a0.xL 4) λak=>Z (A3 Y 5 ak) else Z Y
 ) λa6=>
 AC (τ:=(O (Int×(O S)))×(O S)) (λal=>Xx (Ch ((A1 a6 8).isNone=true)) λ_=>AL (σ:=(O (Int×(O S)))×(O S)) (λ(v39,v40)=>al (v39,v40) ) (λH (a7:oF) i43 (v39,v40)=>Xx (AP a7.A 2) λan=>Xx (gO (α:=S) 1 v40 an) λao=>Xx (AP a7.B 2) λap=>Xx (gO (α:=S) 1 ao ap) λa8=>H ((A3 v39 8 a8),a8) ) a0.fT 0 (a6,[])
 ) λ(aa,v49)=>
 AC (τ:=(O (Int×(O S)))×(O S)) (λaq=>Xx (Ch ((A1 aa 32).isNone=true)) λ_=>AL (σ:=(O (Int×(O S)))×(O S)) (λ(v51,Q)=>aq (v51,Q) ) (λJ (U:iX) i55 (v51,Q)=>Xx (AP U.A 4) λar=>Xx (gO (α:=S) 1 Q ar) λau=>Xx (AP U.B 4) λax=>Xx (gO (α:=S) 1 au ax) λay=>Xx (AP U.C 4) λaz=>Xx (gO (α:=S) 1 ay az) λab=>J ((A3 v51 32 ab),ab) ) a0.iX 0 (aa,[])
 ) λ(ae,v63)=>
 AC (τ:=(O (Int×(O S)))) (λaf=>if (decide (a0.zy≥0)) then Xx (AP a0.zy 4) λba=>af (A3 ae 35 ba) else af ae
 ) λag=>
 AC (τ:=(O gL)) (λbb=>Ad (σ:=Int×(O gL)) (λK (F,v70)=>if (decide (F<256)) then AC (τ:=(O gL)) (λbc=>Xx (some (Xdb (A1 ag F) [])) λah=>Xx (some (Option.isSome (A1 ag F))) λbd=>AC (τ:=(O gL)) (λai=>if bd then Xx (BH F) λbe=>Xx (gO (α:=S) 1 [] ah) λ_=>Xx (gO (α:=gL) 40 v70 ([(⟨be,F,ah⟩:gL)]:O gL)) λbf=>ai bf else ai v70 ) λbg=>AC (τ:=(O gL)) (λbh=>AL (σ:=(O gL)) (λM=>bh M ) (λP (V:gL) i82 M=>AC (τ:=(O gL)) (λaj=>if (V.gE==F) then Xx (gO (α:=S) 1 [] V.Data) λ_=>Xx (gO (α:=gL) 40 M ([{ V with gE:=F }]:O gL)) λbi=>aj bi else aj M ) λbj=>P bj ) a0.oE 0 bg ) λbk=>bc bk ) λbl=>K ((AG (F+1)),bl) else bb v70 ) xv (0,[])
 ) λbm=>
 some (bm,0)
def WR8 (a0:gH)(Y:O (Int×(O S))):Option ((O gL)×Int):=
 AC (τ:=(O (Int×(O S)))×(O S)) (λai=>Xx (Ch ((A1 Y 8).isNone=true)) λ_=>AL (σ:=(O (Int×(O S)))×(O S)) (λ(v39,v40)=>ai (v39,v40) ) (λH (Z:oF) i43 (v39,v40)=>Xx (AP Z.A 2) λaj=>Xx (gO (α:=S) 1 v40 aj) λak=>Xx (AP Z.B 2) λal=>Xx (gO (α:=S) 1 ak al) λa6=>H ((A3 v39 8 a6),a6) ) a0.fT 0 (Y,[])
 ) λ(a7,v49)=>
 AC (τ:=(O (Int×(O S)))×(O S)) (λan=>Xx (Ch ((A1 a7 32).isNone=true)) λ_=>AL (σ:=(O (Int×(O S)))×(O S)) (λ(v51,Q)=>an (v51,Q) ) (λJ (U:iX) i55 (v51,Q)=>Xx (AP U.A 4) λao=>Xx (gO (α:=S) 1 Q ao) λap=>Xx (AP U.B 4) λaq=>Xx (gO (α:=S) 1 ap aq) λar=>Xx (AP U.C 4) λau=>Xx (gO (α:=S) 1 ar au) λa8=>J ((A3 v51 32 a8),a8) ) a0.iX 0 (a7,[])
 ) λ(aa,v63)=>
 AC (τ:=(O (Int×(O S)))) (λab=>if (decide (a0.zy≥0)) then Xx (AP a0.zy 4) λax=>ab (A3 aa 35 ax) else ab aa
 ) λae=>
 AC (τ:=(O gL)) (λay=>Ad (σ:=Int×(O gL)) (λK (F,v70)=>if (decide (F<256)) then AC (τ:=(O gL)) (λaz=>Xx (some (Xdb (A1 ae F) [])) λaf=>Xx (some (Option.isSome (A1 ae F))) λba=>AC (τ:=(O gL)) (λag=>if ba then Xx (BH F) λbb=>Xx (gO (α:=S) 1 [] af) λ_=>Xx (gO (α:=gL) 40 v70 ([(⟨bb,F,af⟩:gL)]:O gL)) λbc=>ag bc else ag v70 ) λbd=>AC (τ:=(O gL)) (λbe=>AL (σ:=(O gL)) (λM=>be M ) (λP (V:gL) i82 M=>AC (τ:=(O gL)) (λah=>if (V.gE==F) then Xx (gO (α:=S) 1 [] V.Data) λ_=>Xx (gO (α:=gL) 40 M ([{ V with gE:=F }]:O gL)) λbf=>ah bf else ah M ) λbg=>P bg ) a0.oE 0 bd ) λbh=>az bh ) λbi=>K ((AG (F+1)),bi) else ay v70 ) xv (0,[])
 ) λbj=>
 some (bj,0)
def WRk (a0:gH)(P:O (Int×(O S))):C ((O gL)×Int):=
 AC (τ:=(O gL)) (λY=>Ad (σ:=Int×(O gL)) (λH (F,v70)=>if (decide (F<256)) then AC (τ:=(O gL)) (λZ=>Xx (some (Xdb (A1 P F) [])) λQ=>Xx (some (Option.isSome (A1 P F))) λa6=>AC (τ:=(O gL)) (λU=>if a6 then Xx (BH F) λa7=>Xx (gO (α:=S) 1 [] Q) λ_=>Xx (gO (α:=gL) 40 v70 ([(⟨a7,F,Q⟩:gL)]:O gL)) λa8=>U a8 else U v70 ) λaa=>AC (τ:=(O gL)) (λab=>AL (σ:=(O gL)) (λJ=>ab J ) (λK (M:gL) i82 J=>AC (τ:=(O gL)) (λV=>if (M.gE==F) then Xx (gO (α:=S) 1 [] M.Data) λ_=>Xx (gO (α:=gL) 40 J ([{ M with gE:=F }]:O gL)) λae=>V ae else V J ) λaf=>K af ) a0.oE 0 aa ) λag=>Z ag ) λah=>H ((AG (F+1)),ah) else Y v70 ) xv (0,[])
 ) λai=>
 some (ai,0)
def gY (a:gH)(k:Int):(Mq a k).length<=1:=by unfold Mq;split<;>simp
def tB (l:O gL)(k:Int):(Uv l k).length<=l.length:=LG (λx=>by split<;>simp) l
structure Hs (m:List (Int×List UInt8))(a:gH)(ks:List Int):Prop where
 h :∀k,A1 m k=if k∈ks then G a k else none
def Hs.add {m:O (Int×O S)}{a:gH}{F:O Int}(p:Hs m a F)(k:Int){b:O S}(H:G a k=some b):Hs (A3 m k b) a (k::F):=⟨λj=>by
 rw[Go.AX.Ay,p.h];by_cases h:j=k
 ·subst h;simp[H]
 have:(j==k)=false:=by simpa using h
 rw[this];simp[h]⟩
def Hs.skip {m:O (Int×O S)}{a:gH}{F:O Int}(p:Hs m a F)(k:Int)(H:G a k=none):Hs m a (k::F):=⟨λj=>by
 rw[p.h];by_cases h:j=k
 ·subst h;simp[H]
 simp[h]⟩
def vX {J ρ:Type}{w:J->O S}{k:Int}{N:Nat}{K:O (Int×O S)×O S->C ρ}{body:(O (Int×O S)×O S->C ρ)->J->Nat->O (Int×O S)×O S->C ρ}{l:O J}{m:O (Int×O S)} {R:C ρ} (U:(l.flatMap w).length<=N) (V :∀next x i m b,x∈l->b.length+(w x).length<=N->body next x i (m,b)=next (A3 m k (b++w x),b++w x)) (Y :∀F H,(∀j,A1 F j=if l≠[]/\j=k then some (l.flatMap w) else A1 m j)->K (F,H)=R):AL K body l 0 (m,[])=R:=by
 have key :∀(t:O J) (i:Nat) (m:O (Int×O S)) (b:O S),(∀x∈t,x∈l)->b.length+(t.flatMap w).length<=N->∃F H,AL K body t i (m,b)=K (F,H)/\∀j,A1 F j=if t≠[]/\j=k then some (b++t.flatMap w) else A1 m j:=by
  intro t;induction t with
  | nil=>intro i m b _ _;exact⟨m,b,rfl,λj=>by simp⟩
  | cons x t Z=>
   intro i m b M hl;rw[Xat,X2] at hl;obtain⟨F,H,e,h⟩:=Z (i+1) (A3 m k (b++w x)) (b++w x) (λy hy=>M y (X16 _ hy)) (by rw[X2];omega);refine⟨F,H,?_,λj=>?_⟩
   ·show body (λs=>AL K body t (i+1) s) x i (m,b)=_;rw[V _ x i m b (M x (by simp)) (by omega)];exact e
   rw[h j,Go.AX.Ay];by_cases P:j=k
   ·subst P;by_cases Q:t=[]
    ·subst Q;simp
    simp[Q,Xat]
   simp[P]
 obtain⟨F,H,e,h⟩:=key l 0 m [] (λ_ h=>h) (by simpa using U);rw[e];exact Y F H λj=>by rw[h j,Xah]
def tz {a:gH}{m:O (Int×O S)}{ρ:Type}{K:O gL->C ρ}(hO:a.oE.length<=1000000)(hd :∀x∈a.oE,x.Data.length<=1000000)(hg :∀k b,G a k=some b->b.length<=1000000) (hm :∀k,A1 m k=G a k) : AC (τ:=(O gL)) (λaa=>Ad (σ:=Int×(O gL)) (λJ p=>match p with
    | (F,v70)=>if (decide (F<256))=true then
     AC (τ:=(O gL)) (λab=>Xx (some (Xdb (A1 m F) [])) λZ=>Xx (some (Option.isSome (A1 m F))) λae=>AC (τ:=(O gL)) (λH=>if ae=true then Xx (BH F) λQ=>Xx (gO (α:=S) 1 [] Z) λ_=>Xx (gO (α:=gL) 40 v70 ([(⟨Q,F,Z⟩:gL)]:O gL)) λU=>H U else H v70 ) λaf=>AC (τ:=(O gL)) (λag=>AL (σ:=(O gL)) (λM=>ag M ) (λP (V:gL) i82 M=>AC (τ:=(O gL)) (λa6=>if (V.gE==F)=true then Xx (gO (α:=S) 1 [] V.Data) λ_=>Xx (gO (α:=gL) 40 M ([{ V with gE:=F }]:O gL)) λah=>a6 ah else a6 M ) λai=>P ai ) a.oE 0 af ) λaj=>ab aj
     ) λak=>
     J ((AG (F+1)),ak)
    else
     aa v70
   ) xv (0,[])
  ) K=K (Kc a):=by
 rw[AB];refine (Bq (λs:Int×O gL=>∃k:Nat,s.1=k/\k<=256/\s.2.length<=k*1000001) (λs=>(256-s.1).toNat) (λs=>K (s.2++(Xex s.1.toNat (256-s.1.toNat)).flatMap λ(k:Nat)=>Mq a k++Uv a.oE k)) ?_ xv (0,[]) ⟨0,rfl,by omega,by simp⟩ (BE (by simp only;omega))).trans rfl;rintro next ⟨kk,v⟩ ⟨k,rfl,an,hv⟩ hn
 dsimp only at hv⊢;by_cases hk:k<256
 ·rw[Xa2 (by simp only[Xy];omega),AB,AA,AA,hm];have he:=gY a k;have a7 :∀q:O gL->C ρ,AC (τ:=(O gL)) (λH=>if (G a k).isSome=true then Xx (BH k) λQ=>Xx (gO (α:=S) 1 [] ((G a k).getD [])) λ_=>Xx (gO (α:=gL) 40 v ([(⟨Q,k,((G a k).getD [])⟩:gL)]:O gL)) λU=>H U else H v ) q=q (v++Mq a k):=by
   intro q;rw[AB];unfold Mq;cases hG:G a k with
   | none=>rw[Xa1 (by decide),Xb1]
   | some b=>have:=hg k b hG;rw[Xa2 (show (some b).isSome=true from rfl),LP,AA,Xaz,AD (by decide) (by simp;omega),AA,AD (by decide) (by simp;omega),AA]
  rw[a7,AB];have a8:=tB a.oE k;refine (jt (g:=λx:gL=>if (x.gE==(k:Int))=true then [x] else []) (N:=(k+1)*1000001) (by unfold Uv at a8;rw[X2];omega) λal x i w hx hw=>?_).trans ?_
  ·rw[AB];by_cases Y:(x.gE==(k:Int))=true
   ·rw[Xa2 Y] at hw;have:=hd x hx;simp only[X19] at hw;rw[Xa2 Y,Xa2 Y,AD (by decide) (by simp;omega),AA,AD (by decide) (by simp;omega),AA];have e:x.gE=(k:Int):=by simpa using Y
    rw[<- e]
   rw[Xa1 Y,Xa1 Y,Xb1]
  show next (AG ((k:Int)+1),v++Mq a k++Uv a.oE k)=_
  rw[AK (by omega),hn _ ⟨k+1,by simp,by omega,by simp only[X2];omega⟩ (by simp only;omega)];have e1:((k:Int)+1).toNat=k+1:=by omega
  have e2:256-k=(256-(k+1))+1:=by omega
  simp only[e1,Xax];rw[e2,List.range'_succ,Xat,Xb9,Xb9,Xb9]
 rw[Xa1 (by simp only[Xy];omega)];have:256-(k:Int).toNat=0:=by omega
 rw[this];simp
structure VA (a:gH):Prop where
 O:Ek a.oE=true
 o:-1<=a.o3/\a.o3<=2
 p:C5 a.Path=true
 n:a.Next.ok=true
 m:-1<=a.AF/\a.AF<=4294967295
 r:-1<=a.xL/\a.xL<=4294967295
 t:a.zy=-1\/(1<=a.zy/\a.zy<=4294967295)
 c:Gv a.fT=true
 l:G1 a.iX=true
 e:a.oE.length<=8
def Nu {a:gH}:Fb a=true↔VA a:=by
 unfold Fb CS;simp only[X24,Xdp,Xy];constructor
 ·rintro⟨H,J,K,M,P,Q,U,V,Y,F⟩;exact⟨H,J,K,M,P,Q,U,V,Y,F⟩
 rintro⟨H,J,K,M,P,Q,U,V,Y,F⟩;exact⟨H,J,K,M,P,Q,U,V,Y,F⟩
def Hz {p:O r8}(h:C5 p=true):p.length<=DP p/\DP p<=64:=by
 unfold C5 at h;simp only[X24,Xa6,Xy] at h;refine⟨?_,h.2⟩;have F:=h.1.1;clear h;induction p with
 | nil=>exact Xak _
 | cons s t H=>rw[CH,X3];have M:=H λx J=>F x (X16 _ J);have K:=F s (by simp);simp only[Jz,X24,Xy] at K;omega
def VA.sm {a:gH}(v:VA a):Ps a:=by obtain⟨H,J⟩:=Hz v.p;have K:=(GB.1 v.c).2.2;have M:=(F7.1 v.l).2.2;have P:=v.e;exact⟨by omega,by omega,by omega,by omega,by omega,λu F=>by have:=(DL v.O F).2.2.2.2;omega⟩
def tC {a:gH}(v:VA a){k:Int}{b:O S}(h:G a k=some b):b.length<=768:=by
 obtain⟨F,H⟩:=Hz v.p;have J:=(GB.1 v.c).2.2;have K:=(F7.1 v.l).2.2;unfold G at h;split at h
 ·split at h
  ·obtain rfl:=X22 h;simp
  cases h
 split at h
 ·split at h
  ·obtain rfl:=X22 h;rw[P6];omega
  cases h
 split at h
 ·split at h
  ·obtain rfl:=X22 h;simp[b4]
  cases h
 split at h
 ·split at h
  ·obtain rfl:=X22 h;rw[KD];omega
  cases h
 split at h
 ·split at h
  ·obtain rfl:=X22 h;rw[KD];omega
  cases h
 split at h
 ·split at h
  ·obtain rfl:=X22 h;rw[M1];omega
  cases h
 split at h
 ·split at h
  ·obtain rfl:=X22 h;rw[MM];omega
  cases h
 split at h
 ·split at h
  ·obtain rfl:=X22 h;rw[KD];omega
  cases h
 cases h
def jl {a:gH}(v:VA a):Gj a=some (Kc a,0):=by
 have hs:=Hz v.p;have hc:=(GB.1 v.c).2.2;have hl:=(F7.1 v.l).2.2;unfold Gj;rw[MI v.sm,AA,Nu.2 v,Xa1 (by decide)];have p0:Hs [] a []:=⟨λk=>by simp[A1]⟩;rw[Ic];have p1:Hs (if decide (a.o3≥0)=true then A3 ([]:List (Int×List S)) (1:Int) [Ak a.o3] else []) a [1]:=by
  by_cases h:a.o3≥0
  ·rw[Xa2 (by simpa using h)];exact p0.add 1 (by unfold G;rw[Xa2 rfl,Xa2 (by omega)])
  rw[Xa1 (by simpa using h)];exact p0.skip 1 (by unfold G;rw[Xa2 rfl,Xa1 (by have:=v.o;omega)])
 generalize (if decide (a.o3≥0)=true then A3 ([]:List (Int×List S)) (1:Int) [Ak a.o3] else [])=m1 at p1;rw[Ic];have eb:(if decide (a.o3≥0)=true then true else (cond false true (decide ((a.Path.length:Int)>0))))=decide (a.o3≠-1\/a.Path≠[]):=by
  have:=v.o;have e:(a.Path≠[])↔0<a.Path.length:=Xbi.symm;by_cases h:a.o3≥0
  ·rw[Xa2 (by simpa using h),Xa4 (.inl (by omega))]
  rw[Xa1 (by simpa using h),Xc2];have h1:a.o3=-1:=by omega
  have e2:(a.o3≠-1\/a.Path≠[])↔0<a.Path.length:=by rw[e];omega
  rw[X25,Xy,Xy,e2];omega
 rw[eb,AB];have K :∃V,Hs V a [2,1]/\∀(F:Type) (q:List (Int×List S)->C F),(if decide (a.o3≠-1\/a.Path≠[])=true then q (A3 m1 2 (Hu a.Path)) else q m1)=q V:=by
  by_cases h:a.o3≠-1\/a.Path≠[]
  ·exact⟨_,p1.add 2 (by unfold G;rw[Xa1 (by decide),Xa2 rfl,Xa2 h]),λF q=>by rw[Xa2 (by simpa using h)]⟩
  exact⟨_,p1.skip 2 (by unfold G;rw[Xa1 (by decide),Xa2 rfl,Xa1 h]),λF q=>by rw[Xa1 (by simpa using h)]⟩
 rw[oL (by omega)];obtain⟨V,p2,e2⟩:=K;refine (e2 _ (WR3 a)).trans ?_;unfold WR3;have en :∀{F:Type} (q:I->C F),AC (τ:=I) (λY=>if (!(Addr.zn a.Next (⟨false,(0:UInt64),(0:UInt64)⟩:Addr)))=true then Y (cond true (!a.Next.V6) false) else Y false) q=q (IV a):=by intro F q;rw[AB];unfold IV;cases a.Next.V6<;>cases Addr.zn a.Next ⟨false,0,0⟩<;>rfl
 refine (en _).trans ?_;rw[AB];have M :∃Z,Hs Z a [3,2,1]/\∀(F:Type) (q:List (Int×List S)->C F),(if IV a=true then Xx (BJ a.Next) λa7=>q (A3 V 3 a7) else q V)=q Z:=by
  by_cases h:IV a=true
  ·have h6:a.Next.V6=false:=by
    unfold IV at h;cases h6:a.Next.V6
    ·rfl
    rw[h6] at h;simp at h
   exact⟨_,p2.add 3 (by unfold G;rw[Xa1 (by decide),Xa1 (by decide),Xa2 rfl,Xa2 h]),λF q=>by rw[Xa2 h,kT v.n h6,AA]⟩
  exact⟨_,p2.skip 3 (by unfold G;rw[Xa1 (by decide),Xa1 (by decide),Xa2 rfl,Xa1 h]),λF q=>by rw[Xa1 h]⟩
 obtain⟨Z,p3,e3⟩:=M;refine (e3 _ (WR4 a)).trans ?_;unfold WR4;rw[AB];have P :∃m4,Hs m4 a [4,3,2,1]/\∀(F:Type) (q:List (Int×List S)->C F),(if decide (a.AF≥0)=true then Xx (AP a.AF 4) λH=>q (A3 Z 4 H) else q Z)=q m4:=by
  have:=v.m;by_cases h:a.AF≥0
  ·exact⟨_,p3.add 4 (by unfold G;rw[Xa1 (by decide),Xa1 (by decide),Xa1 (by decide),Xa2 rfl,Xa2 (by omega)]),λF q=>by rw[Xa2 (by simpa using h),SX,AA]⟩
  exact⟨_,p3.skip 4 (by unfold G;rw[Xa1 (by decide),Xa1 (by decide),Xa1 (by decide),Xa2 rfl,Xa1 (by omega)]),λF q=>by rw[Xa1 (by simpa using h)]⟩
 obtain⟨m4,p4,e4⟩:=P;refine (e4 _ (WR5 a)).trans ?_;unfold WR5;rw[AB];have Q :∃m5,Hs m5 a [5,4,3,2,1]/\∀(F:Type) (q:List (Int×List S)->C F),(if decide (a.xL≥0)=true then Xx (AP a.xL 4) λH=>q (A3 m4 5 H) else q m4)=q m5:=by
  have:=v.r;by_cases h:a.xL≥0
  ·exact⟨_,p4.add 5 (by unfold G;rw[Xa1 (by decide),Xa1 (by decide),Xa1 (by decide),Xa1 (by decide),Xa2 rfl,Xa2 (by omega)]),λF q=>by rw[Xa2 (by simpa using h),SX,AA]⟩
  exact⟨_,p4.skip 5 (by unfold G;rw[Xa1 (by decide),Xa1 (by decide),Xa1 (by decide),Xa1 (by decide),Xa2 rfl,Xa1 (by omega)]),λF q=>by rw[Xa1 (by simpa using h)]⟩
 obtain⟨m5,p5,e5⟩:=Q;refine (e5 _ (WR8 a)).trans ?_;unfold WR8;have a8:Ch ((A1 m5 8).isNone=true)=some ():=by
  have hn:A1 m5 8=none:=by rw[p5.h,Xa1 (by decide)]
  unfold Ch;rw[hn];rfl
 rw[AB,a8,AA]
 refine vX (w:=PR) (k:=8) (N:=1000000) (l:=a.fT) (by rw[M1];omega) (λnext x i m b _ hb=>by
  rw[Vx] at hb;dsimp only;rw[tf,AA,AD (by decide) (by simp[w2];omega),AA,tf,AA,AD (by decide) (by simp[w2];omega),AA,Xb9]
  rfl) λm8 b8 h8=>?_
 have p8:Hs m8 a [8,5,4,3,2,1]:=⟨λj=>by
  rw[h8 j,p5.h];by_cases hj:j=8
  ·subst hj;have:G a 8=if a.fT≠[] then some (a.fT.flatMap PR) else none:=rfl;simp[this]
  simp[hj]⟩
 dsimp only;have a6:Ch ((A1 m8 32).isNone=true)=some ():=by
  have hn:A1 m8 32=none:=by rw[p8.h,Xa1 (by decide)]
  unfold Ch;rw[hn];rfl
 rw[AB,a6,AA]
 refine vX (w:=KV) (k:=32) (N:=1000000) (l:=a.iX) (by rw[MM];omega) (λnext x i m b _ hb=>by
  rw[Uf] at hb;dsimp only;rw[SX,AA,AD (by decide) (by simp[w4];omega),AA,SX,AA,AD (by decide) (by simp[w4];omega),AA,SX,AA,AD (by decide) (by simp[w4];omega),AA,Xb9,Xb9]
  rfl) λm9 b9 h9=>?_
 have p9:Hs m9 a [32,8,5,4,3,2,1]:=⟨λj=>by
  rw[h9 j,p8.h];by_cases hj:j=32
  ·subst hj;have:G a 32=if a.iX≠[] then some (a.iX.flatMap KV) else none:=rfl;simp[this]
  simp[hj]⟩
 dsimp only;rw[AB];have J :∃U,Hs U a [35,32,8,5,4,3,2,1]/\∀(F:Type) (q:List (Int×List S)->C F),(if decide (a.zy≥0)=true then Xx (AP a.zy 4) λH=>q (A3 m9 35 H) else q m9)=q U:=by
  have:=v.t;have hG:G a 35=if a.zy≠-1 then some (w4 a.zy) else none:=rfl;by_cases h:a.zy≥0
  ·exact⟨_,p9.add 35 (by rw[hG,Xa2 (by omega)]),λF q=>by rw[Xa2 (by simpa using h),SX,AA]⟩
  exact⟨_,p9.skip 35 (by rw[hG,Xa1 (by omega)]),λF q=>by rw[Xa1 (by simpa using h)]⟩
 obtain⟨U,aa,ab⟩:=J;refine (ab _ (WRk a)).trans ?_;unfold WRk;refine (tz (a:=a) (by have:=v.e;omega) (λx hx=>by have:=(DL v.O hx).2.2.2.2;omega) (λk b h=>by have:=tC v h;omega) λk=>?_).trans rfl;rw[aa.h];split
 ·rfl
 rename_i hk;simp only[Xa7,Xc3,Xez,not_or] at hk;unfold G;rw[Xa1 hk.2.2.2.2.2.2.2,Xa1 hk.2.2.2.2.2.2.1,Xa1 hk.2.2.2.2.2.1,Xa1 hk.2.2.2.2.1,Xa1 hk.2.2.2.1,Xa1 hk.2.2.1,Xa1 hk.2.1,Xa1 hk.1]
def Pm:O Int:=[1,2,3,4,5,8,32,35]
def ka (a:gH):O gL:=Pm.flatMap (Mq a)++a.oE
def WW {a:gH}{k:Int}{y:gL}(h:y∈Mq a k):k∈Pm:=by
 obtain⟨b,F,_⟩:=FT.1 h;rcases E2 k with ⟨e,_⟩|⟨e,_⟩|⟨e,_⟩|⟨e,_⟩|⟨e,_⟩|⟨e,_⟩|⟨e,_⟩|⟨e,_⟩|e;iterate 8 (subst e;decide)
 rw[PW e.2.2.2.2.2.2.2.2] at F;cases F
def mw {a:gH}{y:gL}:y∈ka a↔(∃k,y∈Mq a k)\/y∈a.oE:=by unfold ka;rw[X20,Xc9];exact⟨λh=>h.imp_left λ⟨k,_,h⟩=>⟨k,h⟩,λh=>h.imp_left λ⟨k,h⟩=>⟨k,WW h,h⟩⟩
def jk {a:gH}(K:Ek a.oE=true):(ka a).Pairwise λx y=>K3 x≠K3 y:=by
 unfold ka;have H :∀{x y:gL},x.gE≠y.gE->K3 x≠K3 y:=λh e=>h (by simpa[K3] using e);refine Xbj.2 ⟨?_,(KT K).imp λ{x y} h=>H (by simp only[JT,Xy] at h;omega),λx F y J=>H λe=>?_⟩
 ·rw[Xe9];refine⟨λk _=>?_,?_⟩
  ·unfold Mq;split
   ·exact List.pairwise_singleton _ _
   exact .nil
  have:Pm.Pairwise (·≠·):=by decide
  exact this.imp λ{k j} h x F y J=>H (by rw[Oh F,Oh J];exact h)
 obtain⟨k,_,F⟩:=Xc9.1 F;obtain⟨b,M,_⟩:=FT.1 F;have:=XH (DL K J).1;rw[<- e,Oh F] at this;rw[PW this] at M;cases M
def lX (a:gH):(Pm.flatMap (Mq a)).length<=8:=LG (gY a) Pm
def XF {a:gH}(v:VA a):(Kc a).length<=16:=by
 have nd :∀{l:List gL},K7 l->l.Nodup:=λh=>h.imp λ{p q} h e=>h (by rw[e]);have h:(Kc a).Perm (ka a):=(List.perm_ext_iff_of_nodup (nd (XX v.O)) ((jk v.O).imp λ{p q} h e=>h (by rw[e]))).2 λx=>by rw[JY v.O,mw]
 rw[h.length_eq];unfold ka;rw[X2];have:=lX a;have:=v.e;omega
def gI {a:gH}(v:VA a){x:gL}(h:x∈Kc a):x.Data.length<=768:=by
 rcases (JY v.O).1 h with ⟨k,h⟩|h
 ·obtain⟨b,F,rfl⟩:=FT.1 h;exact tC v F
 have:=(DL v.O h).2.2.2.2;omega
def PJ {n:Int}(h:0<=n/\n<=4294967295):ET (w4 n)=n:=by
 obtain⟨m,rfl⟩ :∃m:Nat,n=m:=⟨n.toNat,by omega⟩;rw[uH,Gw (by simp)];have:val [Xbw (m/16777216),Xbw (m/65536),Xbw (m/256),Xbw m]=m:=by simp only[val,Xaj,List.foldl_nil,Xam];omega
 rw[this]
def xN {n:Int}(h:0<=n/\n<=65535):ET (w2 n)=n:=by
 obtain⟨m,rfl⟩ :∃m:Nat,n=m:=⟨n.toNat,by omega⟩;rw[tq,Gw (by simp)];have:val [Xbw (m/256),Xbw m]=m:=by simp only[val,Xaj,List.foldl_nil,Xam];omega
 rw[this]
def ir :∀{l:O Int},(∀n∈l,CS n=true)->Cn (l.flatMap w4)=l
 | [],_=>rfl
 | n::t,h=>by have F:=h n (by simp);simp only[CS,X24,Xy] at F;rw[Xat];show ET (w4 n)::Cn (t.flatMap w4)=_;rw[PJ (by omega),ir λm H=>h m (X16 _ H)]
def iW :∀{l:O oF},(∀c∈l,Pu c=true)->comms (l.flatMap PR)=l
 | [],_=>rfl
 | c::t,h=>by have F:=h c (by simp);simp only[Pu,Pd,X24,Xy] at F;rw[Xat];show (⟨ET (w2 c.A),ET (w2 c.B)⟩:oF)::comms (t.flatMap PR)=_;rw[xN (by omega),xN (by omega),iW λm H=>h m (X16 _ H)]
def Y9 :∀{l:O iX},(∀c∈l,R6 c=true)->B8 (Cn (l.flatMap KV))=l
 | [],_=>rfl
 | c::t,h=>by have F:=h c (by simp);simp only[R6,Pd,X24,Xy] at F;rw[Xat];show (⟨ET (w4 c.A),ET (w4 c.B),ET (w4 c.C)⟩:iX)::B8 (Cn (t.flatMap KV))=_;rw[PJ (by omega),PJ (by omega),PJ (by omega),Y9 λm H=>h m (X16 _ H)]
def sR {l:O oF}(h:l.Pairwise λa b=>Np a b=true):bP l=l:=(KJ (l:=l) pN Uk Ov OF h λ_=>Iff.rfl).symm
def qb {l:O iX}(h:l.Pairwise λa b=>N3 a b=true):bV l=l:=(KJ (l:=l) o6 Um OI Om h λ_=>Iff.rfl).symm
def bv {n:Int}(h:0<=n/\n<=2):LU [Ak n]=some n:=by
 obtain⟨m,rfl⟩ :∃m:Nat,n=m:=⟨n.toNat,by omega⟩;have e:ET [Ak (m:Int)]=(m:Int):=by rw[Bd,Gw (by simp)];simp only[val,Xaj,List.foldl_nil,Xam];omega
 unfold LU;rw[e,Xa2 ⟨rfl,h.2⟩]
def ta {n:Int}(h:0<=n/\n<=4294967295):WD (w4 n)=some n:=by unfold WD;rw[Xa2 (KD n),PJ h]
def qw {n:Int}(h:1<=n/\n<=4294967295):ZX (w4 n)=some n:=by unfold ZX;rw[PJ (by omega),Xa2 ⟨KD n,by omega⟩]
def ol {l:O oF}(H:Gv l=true)(J:l≠[]):Qe (l.flatMap PR)=some l:=by obtain⟨K,M,P⟩:=GB.1 H;have F:=Xbi.2 J;unfold Qe;rw[M1,Xa2 (by omega),iW K,sR M]
def jB {l:O iX}(H:G1 l=true)(J:l≠[]):Kp (l.flatMap KV)=some l:=by obtain⟨K,M,P⟩:=F7.1 H;have F:=Xbi.2 J;unfold Kp;rw[MM,Xa2 (by omega),Y9 K,qb M]
def eJ {acc:O r8}{s:r8}(J:s.qv.length<=1000)(F:s.Set=true->s.qv.Pairwise λa b=>Fk a b=true)(H:s.Set=false->∀x,acc.getLast?=some x->x.Set=true):HV acc s.Set s.qv=acc++[s]:=by
 obtain⟨b,l⟩:=s;dsimp only at *;unfold HV;cases b
 ·simp only[Xcl,Xd4];cases h:acc.getLast? with
  | none=>simp only;rw[List.getLast?_eq_none_iff.1 h];rfl
  | some x=>simp only;rw[Xa2 (H rfl x h)]
 simp only[Xet];have:SF l=l:=Cw.uniq (l:=l) (XE (by omega)) ⟨F rfl,λ_=>Iff.rfl⟩;rw[this]
def Zq :∀(q acc:O r8) (e:O S),(∀s∈q,Jz s=true/\s.qv.length<=64)->zm Mb q=true->(∀x y,acc.getLast?=some x->q.head?=some y->Mb x y=true)->RM (Hu q++e) acc=RM e (acc++q)
 | [],acc,e,_,_,_=>by rw[Xb1];rfl
 | s::t,acc,e,h,P,hl=>by
  obtain⟨H,a6⟩:=h s (by simp);simp only[Jz,X24,Xy,Xa6] at H;obtain⟨h0,hn,J⟩:=H;have e0:Hu (s::t)++e=(if s.Set=true then (1:S) else 2)::Ak (s.qv.length:Int)::(s.qv.flatMap w4++(Hu t++e)):=by unfold Hu;rw[Xat];unfold nB;simp
  have hk:(if s.Set=true then (1:S) else 2).toNat=if s.Set=true then 1 else 2:=by cases s.Set<;>rfl
  have K:(Ak (s.qv.length:Int)).toNat=s.qv.length:=by rw[Bd,Xam];omega
  have U:((if s.Set=true then (1:S) else 2).toNat==1)=s.Set:=by cases s.Set<;>rfl
  have M:Lh (if s.Set=true then (1:S) else 2) (Ak (s.qv.length:Int)) (s.qv.flatMap w4++(Hu t++e))=false:=by
   unfold Lh;rw[hk,K,X2,Je];refine Xa9 ?_;have V:(if s.Set=true then 1 else 2)=1\/(if s.Set=true then 1 else 2)=2:=by cases s.Set<;>simp
   generalize (if s.Set=true then 1 else 2)=z at V⊢;omega
  have Y:(s.qv.flatMap w4++(Hu t++e)).take (4*s.qv.length)=s.qv.flatMap w4:=List.take_left' (Je _);have Ga:(s.qv.flatMap w4++(Hu t++e)).drop (4*s.qv.length)=Hu t++e:=List.drop_left' (Je _);rw[e0,Zk,M,Xa1 (by decide),K,Y,Ga,U,ir hn,eJ (by omega) (λF=>?_) (λF x Q=>?_)]
  ·rw[Zq t (acc++[s]) e (λu hu=>h u (X16 _ hu)) ?_ ?_]
   ·rw[Xb9];rfl
   ·cases t with
    | nil=>rfl
    | cons y t=>rw[H6,X24] at P;exact P.2
   intro x y Q Z;rw[List.getLast?_concat] at Q;obtain rfl:=X22 Q;cases t with
   | nil=>simp at Z
   | cons z t=>rw[H6,X24] at P;simp only[List.head?_cons,X21] at Z;subst Z;exact P.1
  ·have:(λa b=>!s.Set || Fk a b)=Fk:=by rw[F];rfl
   rw[this] at J;exact (Jj Nl).1 J
  have:=hl x s Q rfl;unfold Mb at this;rw[F] at this;simpa using this
def nC {p:O r8}(h:C5 p=true):QA (Hu p)=some p:=by have H:=h;obtain⟨P,Q⟩:=Hz h;unfold C5 at h;simp only[X24,Xa6,Xy] at h;obtain⟨⟨J,K⟩,U⟩:=h;have:=Zq p [] [] (λs F=>⟨J s F,by have:=Wh F;omega⟩) K (λx y M=>by simp at M);rw[Xb1,Xah] at this;unfold QA;rw[this,ii,Xby,Qi (by omega) (by omega),H,Xa2 rfl]
def rI {h l:j}(F:h.toNat=0)(H:l.toNat<72057594037927936):(AZ ((Xa3 64 ((AZ ((h.toNat:Int)*(2^(min (Xa0 8) 64)))).toNat:Int) ||| Xa3 64 ((AZ (Xc4 (l.toNat:Int) (2^(min (Xa0 56) 64)))).toNat:Int)).toNat:Int))=0:=by
 have e1:Xc4 (l.toNat:Int) (2^(min (Xa0 56) 64))=((l.toNat/2^(min 56 64):Nat):Int):=fd l.toNat 56;have e2:l.toNat/2^(min 56 64)=0:=Xee H;rw[e1,e2,F];have e3:(((0:Nat):Int)*(2^(min (Xa0 8) 64)))=((0:Nat):Int):=by simp
 rw[e3,DD];rfl
def Wq (F:Addr)(H:S):Addr:=⟨F.V6,(AZ ((Xa3 64 ((AZ ((F.Hi.toNat:Int)*(2^(min (Xa0 8) 64)))).toNat:Int) ||| Xa3 64 ((AZ (Xc4 (F.Lo.toNat:Int) (2^(min (Xa0 56) 64)))).toNat:Int)).toNat:Int)),(AZ ((Xa3 64 ((AZ ((F.Lo.toNat:Int)*(2^(min (Xa0 8) 64)))).toNat:Int) ||| Xa3 64 ((AZ (H.toNat:Int)).toNat:Int)).toNat:Int))⟩
def JH {m:Nat}(F:m<16777216)(x:S):Wq ⟨false,0,Xao m⟩ x=⟨false,0,Xao (m*256+x.toNat)⟩:=by
 have e:(Xao m).toNat=m:=by rw[Xar];omega
 unfold Wq;dsimp only;rw[rI rfl (by omega),Xb (by omega) x.toNat_lt,e]
def ix {n:Nat}(h:n<4294967296):addrOf (b4 n)=⟨false,0,Xao n⟩:=by
 have M :∀K:Addr->C (Addr×Int),AL (σ:=Addr) (λJ=>K J) (λF P _ J=>F (Wq J P)) (b4 n) 0 ⟨false,0,Xao 0⟩=K ⟨false,0,Xao n⟩:=by intro K;rw[iM];unfold b4;rw[Xaj,JH (by omega),Xaj,JH (by rw[Xam];omega),Xaj,JH (by rw[Xam,Xam];omega),Xaj,JH (by rw[Xam,Xam,Xam];omega),List.foldl_nil];congr 3;simp only[Xam];omega
 have H:Au (b4 n)=some (⟨false,0,Xao n⟩,0):=M λQ=>some (Q,0);unfold addrOf;rw[H];rfl
def mg {a:Addr}(h:a.ok=true)(F:a.V6=false):UA (b4 a.Lo.toNat)=some a:=by
 obtain⟨H,J⟩:=Addr.four h F;unfold UA;rw[Xa2 (show (b4 a.Lo.toNat).length=4 from rfl),ix J];obtain⟨v,K,M⟩:=a;dsimp only at H F;subst F;congr 2
 ·apply Xcp.1;rw[H];rfl
 exact UInt64.ofNat_toNat
end Go.AX.Q33
end
