/-
  Texts of one proof, packed.
-/
import Derived.Test.YtppcmaidcgimpaaGreatDoorU20
set_option linter.all false
set_option maxRecDepth 100000
set_option maxHeartbeats 4000000
open List renaming length_map→X10,length_append→X11,length_cons→X12,length_nil→X13,length_drop→X17,length_take→X18,mem_cons_of_mem→X19,length_replicate→X20,length_set→X21,length_singleton→X22,mem_append→X23
open Option.some renaming inj→X25
open Bool renaming and_eq_true→X27,eq_iff_iff→X28
open Nat renaming mul_le_mul_right→X31,add_mul→X32
open Option renaming bind→Wb,getD→Xau,isSome→Xdy
open Int renaming toNat→Wo,fdiv→Xas
open List renaming take→Xbx,drop→Xc2
open BitVec renaming ofInt→Xa2
section
namespace Go.AX.Q25
open Go Go.AX
def Mp (H:gE)(Z:I (Int×(I S))):O ((I gH)×Int):=
 AB (τ:=Bool) (λa1=>if (!(Addr.wa H.Next (⟨false,(0:j),(0:j)⟩:Addr))) then a1 (cond true (!H.Next.V6) false) else a1 false
 ) λaq=>
 AB (τ:=(I (Int×(I S)))) (λa6=>if aq then Wb (Bq H.Next) λar=>a6 (BN Z 3 ar) else a6 Z
 ) λa7=>
 AB (τ:=(I (Int×(I S)))) (λa8=>if (decide (H.wo≥0)) then Wb (AQ H.wo 4) λau=>a8 (BN a7 4 au) else a8 a7
 ) λaa=>
 AB (τ:=(I (Int×(I S)))) (λab=>if (decide (H.th≥0)) then Wb (AQ H.th 4) λax=>ab (BN aa 5 ax) else ab aa
 ) λae=>
 AB (τ:=(I (Int×(I S)))×(I S)) (λay=>Wb (wQ ((A7 ae 8).isNone=true)) λ_=>AI (σ:=(I (Int×(I S)))×(I S)) (λ(v39,v40)=>ay (v39,v40) ) (λJ (af:qv) i43 (v39,v40)=>Wb (AQ af.A 2) λaz=>Wb (gN (α:=S) 1 v40 az) λb0=>Wb (AQ af.B 2) λba=>Wb (gN (α:=S) 1 b0 ba) λag=>J ((BN v39 8 ag),ag) ) H.cW 0 (ae,[])
 ) λ(ah,v49)=>
 AB (τ:=(I (Int×(I S)))×(I S)) (λbb=>Wb (wQ ((A7 ah 32).isNone=true)) λ_=>AI (σ:=(I (Int×(I S)))×(I S)) (λ(v51,U)=>bb (v51,U) ) (λK (V:oB) i55 (v51,U)=>Wb (AQ V.A 4) λbc=>Wb (gN (α:=S) 1 U bc) λbd=>Wb (AQ V.B 4) λbe=>Wb (gN (α:=S) 1 bd be) λbf=>Wb (AQ V.C 4) λbg=>Wb (gN (α:=S) 1 bf bg) λai=>K ((BN v51 32 ai),ai) ) H.oB 0 (ah,[])
 ) λ(aj,v63)=>
 AB (τ:=(I (Int×(I S)))) (λak=>if (decide (H.vS≥0)) then Wb (AQ H.vS 4) λbh=>ak (BN aj 35 bh) else ak aj
 ) λal=>
 AB (τ:=(I gH)) (λbi=>BD (σ:=Int×(I gH)) (λM (F,v70)=>if (decide (F<256)) then AB (τ:=(I gH)) (λbj=>Wb (some (Xau (A7 al F) [])) λan=>Wb (some (Xdy (A7 al F))) λbk=>AB (τ:=(I gH)) (λao=>if bk then Wb (Bl F) λbl=>Wb (gN (α:=S) 1 [] an) λ_=>Wb (gN (α:=gH) 40 v70 ([(⟨bl,F,an⟩:gH)]:I gH)) λbm=>ao bm else ao v70 ) λbn=>AB (τ:=(I gH)) (λbo=>AI (σ:=(I gH)) (λP=>bo P ) (λQ (Y:gH) i82 P=>AB (τ:=(I gH)) (λap=>if (Y.iB==F) then Wb (gN (α:=S) 1 [] Y.Data) λ_=>Wb (gN (α:=gH) 40 P ([{ Y with iB:=F }]:I gH)) λbp=>ap bp else ap P ) λbq=>Q bq ) H.iX 0 bn ) λbr=>bj br ) λbu=>M ((AO (F+1)),bu) else bi v70 ) tE (0,[])
 ) λbw=>
 some (bw,0)
def Mk (H:gE)(Z:I (Int×(I S))):O ((I gH)×Int):=
 AB (τ:=(I (Int×(I S)))) (λa1=>if (decide (H.wo≥0)) then Wb (AQ H.wo 4) λan=>a1 (BN Z 4 an) else a1 Z
 ) λa6=>
 AB (τ:=(I (Int×(I S)))) (λa7=>if (decide (H.th≥0)) then Wb (AQ H.th 4) λao=>a7 (BN a6 5 ao) else a7 a6
 ) λa8=>
 AB (τ:=(I (Int×(I S)))×(I S)) (λap=>Wb (wQ ((A7 a8 8).isNone=true)) λ_=>AI (σ:=(I (Int×(I S)))×(I S)) (λ(v39,v40)=>ap (v39,v40) ) (λJ (aa:qv) i43 (v39,v40)=>Wb (AQ aa.A 2) λaq=>Wb (gN (α:=S) 1 v40 aq) λar=>Wb (AQ aa.B 2) λau=>Wb (gN (α:=S) 1 ar au) λab=>J ((BN v39 8 ab),ab) ) H.cW 0 (a8,[])
 ) λ(ae,v49)=>
 AB (τ:=(I (Int×(I S)))×(I S)) (λax=>Wb (wQ ((A7 ae 32).isNone=true)) λ_=>AI (σ:=(I (Int×(I S)))×(I S)) (λ(v51,U)=>ax (v51,U) ) (λK (V:oB) i55 (v51,U)=>Wb (AQ V.A 4) λay=>Wb (gN (α:=S) 1 U ay) λaz=>Wb (AQ V.B 4) λb0=>Wb (gN (α:=S) 1 az b0) λba=>Wb (AQ V.C 4) λbb=>Wb (gN (α:=S) 1 ba bb) λaf=>K ((BN v51 32 af),af) ) H.oB 0 (ae,[])
 ) λ(ag,v63)=>
 AB (τ:=(I (Int×(I S)))) (λah=>if (decide (H.vS≥0)) then Wb (AQ H.vS 4) λbc=>ah (BN ag 35 bc) else ah ag
 ) λai=>
 AB (τ:=(I gH)) (λbd=>BD (σ:=Int×(I gH)) (λM (F,v70)=>if (decide (F<256)) then AB (τ:=(I gH)) (λbe=>Wb (some (Xau (A7 ai F) [])) λaj=>Wb (some (Xdy (A7 ai F))) λbf=>AB (τ:=(I gH)) (λak=>if bf then Wb (Bl F) λbg=>Wb (gN (α:=S) 1 [] aj) λ_=>Wb (gN (α:=gH) 40 v70 ([(⟨bg,F,aj⟩:gH)]:I gH)) λbh=>ak bh else ak v70 ) λbi=>AB (τ:=(I gH)) (λbj=>AI (σ:=(I gH)) (λP=>bj P ) (λQ (Y:gH) i82 P=>AB (τ:=(I gH)) (λal=>if (Y.iB==F) then Wb (gN (α:=S) 1 [] Y.Data) λ_=>Wb (gN (α:=gH) 40 P ([{ Y with iB:=F }]:I gH)) λbk=>al bk else al P ) λbl=>Q bl ) H.iX 0 bi ) λbm=>be bm ) λbn=>M ((AO (F+1)),bn) else bd v70 ) tE (0,[])
 ) λbo=>
 some (bo,0)
def Mr (Q:gE)(Z:I (Int×(I S))):O ((I gH)×Int):=
 AB (τ:=(I (Int×(I S)))) (λa1=>if (decide (Q.th≥0)) then Wb (AQ Q.th 4) λak=>a1 (BN Z 5 ak) else a1 Z
 ) λa6=>
 AB (τ:=(I (Int×(I S)))×(I S)) (λal=>Wb (wQ ((A7 a6 8).isNone=true)) λ_=>AI (σ:=(I (Int×(I S)))×(I S)) (λ(v39,v40)=>al (v39,v40) ) (λH (a7:qv) i43 (v39,v40)=>Wb (AQ a7.A 2) λan=>Wb (gN (α:=S) 1 v40 an) λao=>Wb (AQ a7.B 2) λap=>Wb (gN (α:=S) 1 ao ap) λa8=>H ((BN v39 8 a8),a8) ) Q.cW 0 (a6,[])
 ) λ(aa,v49)=>
 AB (τ:=(I (Int×(I S)))×(I S)) (λaq=>Wb (wQ ((A7 aa 32).isNone=true)) λ_=>AI (σ:=(I (Int×(I S)))×(I S)) (λ(v51,U)=>aq (v51,U) ) (λJ (V:oB) i55 (v51,U)=>Wb (AQ V.A 4) λar=>Wb (gN (α:=S) 1 U ar) λau=>Wb (AQ V.B 4) λax=>Wb (gN (α:=S) 1 au ax) λay=>Wb (AQ V.C 4) λaz=>Wb (gN (α:=S) 1 ay az) λab=>J ((BN v51 32 ab),ab) ) Q.oB 0 (aa,[])
 ) λ(ae,v63)=>
 AB (τ:=(I (Int×(I S)))) (λaf=>if (decide (Q.vS≥0)) then Wb (AQ Q.vS 4) λb0=>af (BN ae 35 b0) else af ae
 ) λag=>
 AB (τ:=(I gH)) (λba=>BD (σ:=Int×(I gH)) (λK (F,v70)=>if (decide (F<256)) then AB (τ:=(I gH)) (λbb=>Wb (some (Xau (A7 ag F) [])) λah=>Wb (some (Xdy (A7 ag F))) λbc=>AB (τ:=(I gH)) (λai=>if bc then Wb (Bl F) λbd=>Wb (gN (α:=S) 1 [] ah) λ_=>Wb (gN (α:=gH) 40 v70 ([(⟨bd,F,ah⟩:gH)]:I gH)) λbe=>ai be else ai v70 ) λbf=>AB (τ:=(I gH)) (λbg=>AI (σ:=(I gH)) (λM=>bg M ) (λP (Y:gH) i82 M=>AB (τ:=(I gH)) (λaj=>if (Y.iB==F) then Wb (gN (α:=S) 1 [] Y.Data) λ_=>Wb (gN (α:=gH) 40 M ([{ Y with iB:=F }]:I gH)) λbh=>aj bh else aj M ) λbi=>P bi ) Q.iX 0 bf ) λbj=>bb bj ) λbk=>K ((AO (F+1)),bk) else ba v70 ) tE (0,[])
 ) λbl=>
 some (bl,0)
def Lw (Y:gE)(Z:I (Int×(I S))):O ((I gH)×Int):=
 AB (τ:=(I (Int×(I S)))×(I S)) (λai=>Wb (wQ ((A7 Z 8).isNone=true)) λ_=>AI (σ:=(I (Int×(I S)))×(I S)) (λ(v39,v40)=>ai (v39,v40) ) (λH (a1:qv) i43 (v39,v40)=>Wb (AQ a1.A 2) λaj=>Wb (gN (α:=S) 1 v40 aj) λak=>Wb (AQ a1.B 2) λal=>Wb (gN (α:=S) 1 ak al) λa6=>H ((BN v39 8 a6),a6) ) Y.cW 0 (Z,[])
 ) λ(a7,v49)=>
 AB (τ:=(I (Int×(I S)))×(I S)) (λan=>Wb (wQ ((A7 a7 32).isNone=true)) λ_=>AI (σ:=(I (Int×(I S)))×(I S)) (λ(v51,Q)=>an (v51,Q) ) (λJ (U:oB) i55 (v51,Q)=>Wb (AQ U.A 4) λao=>Wb (gN (α:=S) 1 Q ao) λap=>Wb (AQ U.B 4) λaq=>Wb (gN (α:=S) 1 ap aq) λar=>Wb (AQ U.C 4) λau=>Wb (gN (α:=S) 1 ar au) λa8=>J ((BN v51 32 a8),a8) ) Y.oB 0 (a7,[])
 ) λ(aa,v63)=>
 AB (τ:=(I (Int×(I S)))) (λab=>if (decide (Y.vS≥0)) then Wb (AQ Y.vS 4) λax=>ab (BN aa 35 ax) else ab aa
 ) λae=>
 AB (τ:=(I gH)) (λay=>BD (σ:=Int×(I gH)) (λK (F,v70)=>if (decide (F<256)) then AB (τ:=(I gH)) (λaz=>Wb (some (Xau (A7 ae F) [])) λaf=>Wb (some (Xdy (A7 ae F))) λb0=>AB (τ:=(I gH)) (λag=>if b0 then Wb (Bl F) λba=>Wb (gN (α:=S) 1 [] af) λ_=>Wb (gN (α:=gH) 40 v70 ([(⟨ba,F,af⟩:gH)]:I gH)) λbb=>ag bb else ag v70 ) λbc=>AB (τ:=(I gH)) (λbd=>AI (σ:=(I gH)) (λM=>bd M ) (λP (V:gH) i82 M=>AB (τ:=(I gH)) (λah=>if (V.iB==F) then Wb (gN (α:=S) 1 [] V.Data) λ_=>Wb (gN (α:=gH) 40 M ([{ V with iB:=F }]:I gH)) λbe=>ah be else ah M ) λbf=>P bf ) Y.iX 0 bc ) λbg=>az bg ) λbh=>K ((AO (F+1)),bh) else ay v70 ) tE (0,[])
 ) λbi=>
 some (bi,0)
def Mn (a0:gE)(P:I (Int×(I S))):O ((I gH)×Int):=
 AB (τ:=(I gH)) (λY=>BD (σ:=Int×(I gH)) (λH (F,v70)=>if (decide (F<256)) then AB (τ:=(I gH)) (λZ=>Wb (some (Xau (A7 P F) [])) λQ=>Wb (some (Xdy (A7 P F))) λa1=>AB (τ:=(I gH)) (λU=>if a1 then Wb (Bl F) λa6=>Wb (gN (α:=S) 1 [] Q) λ_=>Wb (gN (α:=gH) 40 v70 ([(⟨a6,F,Q⟩:gH)]:I gH)) λa7=>U a7 else U v70 ) λa8=>AB (τ:=(I gH)) (λaa=>AI (σ:=(I gH)) (λJ=>aa J ) (λK (M:gH) i82 J=>AB (τ:=(I gH)) (λV=>if (M.iB==F) then Wb (gN (α:=S) 1 [] M.Data) λ_=>Wb (gN (α:=gH) 40 J ([{ M with iB:=F }]:I gH)) λab=>V ab else V J ) λae=>K ae ) a0.iX 0 a8 ) λaf=>Z af ) λag=>H ((AO (F+1)),ag) else Y v70 ) tE (0,[])
 ) λah=>
 some (ah,0)
def Il (a:gE)(k:Int):(xB a k).length<=1:=by unfold xB;split<;>simp
def pt (l:I gH)(k:Int):(Cw l k).length<=l.length:=UZ (λx=>by split<;>simp) l
structure xS (m:List (Int×List UInt8))(a:gE)(ks:List Int):Prop where
 h :∀k,A7 m k=if k∈ks then G a k else none
def xS.add {m:I (Int×I S)}{a:gE}{F:I Int}(p:xS m a F)(k:Int){b:I S}(H:G a k=some b):xS (BN m k b) a (k::F):=⟨λj=>by
 rw[Go.AX.wV,p.h];by_cases h:j=k
 ·subst h;simp[H]
 have:(j==k)=false:=by simpa using h
 rw[this];simp[h]⟩
def xS.skip {m:I (Int×I S)}{a:gE}{F:I Int}(p:xS m a F)(k:Int)(H:G a k=none):xS m a (k::F):=⟨λj=>by
 rw[p.h];by_cases h:j=k
 ·subst h;simp[H]
 simp[h]⟩
def ri {J ρ:Type}{w:J->I S}{k:Int}{N:Nat}{K:I (Int×I S)×I S->O ρ}{body:(I (Int×I S)×I S->O ρ)->J->Nat->I (Int×I S)×I S->O ρ}{l:I J}{m:I (Int×I S)} {R:O ρ} (U:(l.flatMap w).length<=N) (V :∀next x i m b,x∈l->b.length+(w x).length<=N->body next x i (m,b)=next (BN m k (b++w x),b++w x)) (Y :∀F H,(∀j,A7 F j=if l≠[]/\j=k then some (l.flatMap w) else A7 m j)->K (F,H)=R):AI K body l 0 (m,[])=R:=by
 have key :∀(t:I J) (i:Nat) (m:I (Int×I S)) (b:I S),(∀x∈t,x∈l)->b.length+(t.flatMap w).length<=N->∃F H,AI K body t i (m,b)=K (F,H)/\∀j,A7 F j=if t≠[]/\j=k then some (b++t.flatMap w) else A7 m j:=by
  intro t;induction t with
  | nil=>intro i m b _ _;exact⟨m,b,rfl,λj=>by simp⟩
  | cons x t Z=>
   intro i m b M hl;rw[Xaw,X11] at hl;obtain⟨F,H,e,h⟩:=Z (i+1) (BN m k (b++w x)) (b++w x) (λy hy=>M y (X19 _ hy)) (by rw[X11];omega);refine⟨F,H,?_,λj=>?_⟩
   ·show body (λs=>AI K body t (i+1) s) x i (m,b)=_;rw[V _ x i m b (M x (by simp)) (by omega)];exact e
   rw[h j,Go.AX.wV];by_cases P:j=k
   ·subst P;by_cases Q:t=[]
    ·subst Q;simp
    simp[Q,Xaw]
   simp[P]
 obtain⟨F,H,e,h⟩:=key l 0 m [] (λ_ h=>h) (by simpa using U);rw[e];exact Y F H λj=>by rw[h j,Xay]
def qN {a:gE}{m:I (Int×I S)}{ρ:Type}{K:I gH->O ρ}(hO:a.iX.length<=1000000)(hd :∀x∈a.iX,x.Data.length<=1000000)(hg :∀k b,G a k=some b->b.length<=1000000) (hm :∀k,A7 m k=G a k) : AB (τ:=(I gH)) (λa8=>BD (σ:=Int×(I gH)) (λJ p=>match p with
    | (F,v70)=>if (decide (F<256))=true then
     AB (τ:=(I gH)) (λaa=>Wb (some (Xau (A7 m F) [])) λZ=>Wb (some (Xdy (A7 m F))) λab=>AB (τ:=(I gH)) (λH=>if ab=true then Wb (Bl F) λQ=>Wb (gN (α:=S) 1 [] Z) λ_=>Wb (gN (α:=gH) 40 v70 ([(⟨Q,F,Z⟩:gH)]:I gH)) λU=>H U else H v70 ) λae=>AB (τ:=(I gH)) (λaf=>AI (σ:=(I gH)) (λM=>af M ) (λP (V:gH) i82 M=>AB (τ:=(I gH)) (λa1=>if (V.iB==F)=true then Wb (gN (α:=S) 1 [] V.Data) λ_=>Wb (gN (α:=gH) 40 M ([{ V with iB:=F }]:I gH)) λag=>a1 ag else a1 M ) λah=>P ah ) a.iX 0 ae ) λai=>aa ai
     ) λaj=>
     J ((AO (F+1)),aj)
    else
     a8 v70
   ) tE (0,[])
  ) K=K (yz a):=by
 rw[AC];refine (Dq (λs:Int×I gH=>∃k:Nat,s.1=k/\k<=256/\s.2.length<=k*1000001) (λs=>(256-s.1).toNat) (λs=>K (s.2++(List.range' s.1.toNat (256-s.1.toNat)).flatMap λ(k:Nat)=>xB a k++Cw a.iX k)) ?_ tE (0,[]) ⟨0,rfl,by omega,by simp⟩ (BW (by simp only;omega))).trans rfl;rintro next ⟨kk,v⟩ ⟨k,rfl,al,hv⟩ hn
 dsimp only at hv⊢;by_cases hk:k<256
 ·rw[Wr (by simp only[Wd];omega),AC,AA,AA,hm];have he:=Il a k;have a6 :∀q:I gH->O ρ,AB (τ:=(I gH)) (λH=>if (G a k).isSome=true then Wb (Bl k) λQ=>Wb (gN (α:=S) 1 [] ((G a k).getD [])) λ_=>Wb (gN (α:=gH) 40 v ([(⟨Q,k,((G a k).getD [])⟩:gH)]:I gH)) λU=>H U else H v ) q=q (v++xB a k):=by
   intro q;rw[AC];unfold xB;cases hG:G a k with
   | none=>rw[Wm (by decide),Xaj]
   | some b=>have:=hg k b hG;rw[Wr (show (some b).isSome=true from rfl),NX,AA,Xb7,AD (by decide) (by simp;omega),AA,AD (by decide) (by simp;omega),AA]
  rw[a6,AC];have a7:=pt a.iX k;refine (WO (g:=λx:gH=>if (x.iB==(k:Int))=true then [x] else []) (N:=(k+1)*1000001) (by unfold Cw at a7;rw[X11];omega) λak x i w hx hw=>?_).trans ?_
  ·rw[AC];by_cases Y:(x.iB==(k:Int))=true
   ·rw[Wr Y] at hw;have:=hd x hx;simp only[X22] at hw;rw[Wr Y,Wr Y,AD (by decide) (by simp;omega),AA,AD (by decide) (by simp;omega),AA];have e:x.iB=(k:Int):=by simpa using Y
    rw[<- e]
   rw[Wm Y,Wm Y,Xaj]
  show next (AO ((k:Int)+1),v++xB a k++Cw a.iX k)=_
  rw[AG (by omega),hn _ ⟨k+1,by simp,by omega,by simp only[X11];omega⟩ (by simp only;omega)];have e1:((k:Int)+1).toNat=k+1:=by omega
  have e2:256-k=(256-(k+1))+1:=by omega
  simp only[e1,Xaa];rw[e2,List.range'_succ,Xaw,Xak,Xak,Xak]
 rw[Wm (by simp only[Wd];omega)];have:256-(k:Int).toNat=0:=by omega
 rw[this];simp
structure VA (a:gE):Prop where
 O:ET a.iX=true
 o:-1<=a.gO/\a.gO<=2
 p:Dc a.Path=true
 n:a.Next.ok=true
 m:-1<=a.wo/\a.wo<=4294967295
 r:-1<=a.th/\a.th<=4294967295
 t:a.vS=-1\/(1<=a.vS/\a.vS<=4294967295)
 c:IW a.cW=true
 l:Ib a.oB=true
 e:a.iX.length<=8
def Ns {a:gE}:EY a=true↔VA a:=by
 unfold EY Bv;simp only[X27,Xcx,Wd];constructor
 ·rintro⟨H,J,K,M,P,Q,U,V,Y,F⟩;exact⟨H,J,K,M,P,Q,U,V,Y,F⟩
 rintro⟨H,J,K,M,P,Q,U,V,Y,F⟩;exact⟨H,J,K,M,P,Q,U,V,Y,F⟩
def KT {p:I oF}(h:Dc p=true):p.length<=xm p/\xm p<=64:=by
 unfold Dc at h;simp only[X27,Xa0,Wd] at h;refine⟨?_,h.2⟩;have F:=h.1.1;clear h;induction p with
 | nil=>exact Xam _
 | cons s t H=>rw[Fe,X12];have M:=H λx J=>F x (X19 _ J);have K:=F s (by simp);simp only[N4,X27,Wd] at K;omega
def VA.sm {a:gE}(v:VA a):xH a:=by obtain⟨H,J⟩:=KT v.p;have K:=(Jt.1 v.c).2.2;have M:=(Jq.1 v.l).2.2;have P:=v.e;exact⟨by omega,by omega,by omega,by omega,by omega,λu F=>by have:=(Ig v.O F).2.2.2.2;omega⟩
def pu {a:gE}(v:VA a){k:Int}{b:I S}(h:G a k=some b):b.length<=768:=by
 obtain⟨F,H⟩:=KT v.p;have J:=(Jt.1 v.c).2.2;have K:=(Jq.1 v.l).2.2;unfold G at h;split at h
 ·split at h
  ·obtain rfl:=X25 h;simp
  cases h
 split at h
 ·split at h
  ·obtain rfl:=X25 h;rw[OS];omega
  cases h
 split at h
 ·split at h
  ·obtain rfl:=X25 h;simp[b4]
  cases h
 split at h
 ·split at h
  ·obtain rfl:=X25 h;rw[PO];omega
  cases h
 split at h
 ·split at h
  ·obtain rfl:=X25 h;rw[PO];omega
  cases h
 split at h
 ·split at h
  ·obtain rfl:=X25 h;rw[Ob];omega
  cases h
 split at h
 ·split at h
  ·obtain rfl:=X25 h;rw[OQ];omega
  cases h
 split at h
 ·split at h
  ·obtain rfl:=X25 h;rw[PO];omega
  cases h
 cases h
def iH {a:gE}(v:VA a):Ha a=some (yz a,0):=by
 have hs:=KT v.p;have hc:=(Jt.1 v.c).2.2;have hl:=(Jq.1 v.l).2.2;unfold Ha;rw[OK v.sm,AA,Ns.2 v,Wm (by decide)];have p0:xS [] a []:=⟨λk=>by simp[A7]⟩;rw[Jm];have p1:xS (if decide (a.gO≥0)=true then BN ([]:I (Int×I S)) (1:Int) [A4 a.gO] else []) a [1]:=by
  by_cases h:a.gO≥0
  ·rw[Wr (by simpa using h)];exact p0.add 1 (by unfold G;rw[Wr rfl,Wr (by omega)])
  rw[Wm (by simpa using h)];exact p0.skip 1 (by unfold G;rw[Wr rfl,Wm (by have:=v.o;omega)])
 generalize (if decide (a.gO≥0)=true then BN ([]:I (Int×I S)) (1:Int) [A4 a.gO] else [])=m1 at p1;rw[Jm];have eb:(if decide (a.gO≥0)=true then true else (cond false true (decide ((a.Path.length:Int)>0))))=decide (a.gO≠-1\/a.Path≠[]):=by
  have:=v.o;have e:(a.Path≠[])↔0<a.Path.length:=Xch.symm;by_cases h:a.gO≥0
  ·rw[Wr (by simpa using h),Wz (.inl (by omega))]
  rw[Wm (by simpa using h),Xcn];have h1:a.gO=-1:=by omega
  have e2:(a.gO≠-1\/a.Path≠[])↔0<a.Path.length:=by rw[e];omega
  rw[X28,Wd,Wd,e2];omega
 rw[eb,AC];have K :∃V,xS V a [2,1]/\∀(F:Type) (q:I (Int×I S)->Option F),(if decide (a.gO≠-1\/a.Path≠[])=true then q (BN m1 2 (Ou a.Path)) else q m1)=q V:=by
  by_cases h:a.gO≠-1\/a.Path≠[]
  ·exact⟨_,p1.add 2 (by unfold G;rw[Wm (by decide),Wr rfl,Wr h]),λF q=>by rw[Wr (by simpa using h)]⟩
  exact⟨_,p1.skip 2 (by unfold G;rw[Wm (by decide),Wr rfl,Wm h]),λF q=>by rw[Wm (by simpa using h)]⟩
 rw[mF (by omega)];obtain⟨V,p2,e2⟩:=K;refine (e2 _ (Mp a)).trans ?_;unfold Mp;have en :∀{F:Type} (q:C->Option F),AB (τ:=C) (λY=>if (!(Addr.wa a.Next (⟨false,(0:UInt64),(0:UInt64)⟩:Addr)))=true then Y (cond true (!a.Next.V6) false) else Y false) q=q (Jd a):=by intro F q;rw[AC];unfold Jd;cases a.Next.V6<;>cases Addr.wa a.Next ⟨false,0,0⟩<;>rfl
 refine (en _).trans ?_;rw[AC];have M :∃Z,xS Z a [3,2,1]/\∀(F:Type) (q:I (Int×I S)->Option F),(if Jd a=true then Wb (Bq a.Next) λa6=>q (BN V 3 a6) else q V)=q Z:=by
  by_cases h:Jd a=true
  ·have h6:a.Next.V6=false:=by
    unfold Jd at h;cases h6:a.Next.V6
    ·rfl
    rw[h6] at h;simp at h
   exact⟨_,p2.add 3 (by unfold G;rw[Wm (by decide),Wm (by decide),Wr rfl,Wr h]),λF q=>by rw[Wr h,jB v.n h6,AA]⟩
  exact⟨_,p2.skip 3 (by unfold G;rw[Wm (by decide),Wm (by decide),Wr rfl,Wm h]),λF q=>by rw[Wm h]⟩
 obtain⟨Z,p3,e3⟩:=M;refine (e3 _ (Mk a)).trans ?_;unfold Mk;rw[AC];have P :∃m4,xS m4 a [4,3,2,1]/\∀(F:Type) (q:I (Int×I S)->Option F),(if decide (a.wo≥0)=true then Wb (AQ a.wo 4) λH=>q (BN Z 4 H) else q Z)=q m4:=by
  have:=v.m;by_cases h:a.wo≥0
  ·exact⟨_,p3.add 4 (by unfold G;rw[Wm (by decide),Wm (by decide),Wm (by decide),Wr rfl,Wr (by omega)]),λF q=>by rw[Wr (by simpa using h),UW,AA]⟩
  exact⟨_,p3.skip 4 (by unfold G;rw[Wm (by decide),Wm (by decide),Wm (by decide),Wr rfl,Wm (by omega)]),λF q=>by rw[Wm (by simpa using h)]⟩
 obtain⟨m4,p4,e4⟩:=P;refine (e4 _ (Mr a)).trans ?_;unfold Mr;rw[AC];have Q :∃m5,xS m5 a [5,4,3,2,1]/\∀(F:Type) (q:I (Int×I S)->Option F),(if decide (a.th≥0)=true then Wb (AQ a.th 4) λH=>q (BN m4 5 H) else q m4)=q m5:=by
  have:=v.r;by_cases h:a.th≥0
  ·exact⟨_,p4.add 5 (by unfold G;rw[Wm (by decide),Wm (by decide),Wm (by decide),Wm (by decide),Wr rfl,Wr (by omega)]),λF q=>by rw[Wr (by simpa using h),UW,AA]⟩
  exact⟨_,p4.skip 5 (by unfold G;rw[Wm (by decide),Wm (by decide),Wm (by decide),Wm (by decide),Wr rfl,Wm (by omega)]),λF q=>by rw[Wm (by simpa using h)]⟩
 obtain⟨m5,p5,e5⟩:=Q;refine (e5 _ (Lw a)).trans ?_;unfold Lw;have a7:wQ ((A7 m5 8).isNone=true)=some ():=by
  have hn:A7 m5 8=none:=by rw[p5.h,Wm (by decide)]
  unfold wQ;rw[hn];rfl
 rw[AC,a7,AA]
 refine ri (w:=OG) (k:=8) (N:=1000000) (l:=a.cW) (by rw[Ob];omega) (λnext x i m b _ hb=>by
  rw[R7] at hb;dsimp only;rw[qE,AA,AD (by decide) (by simp[w2];omega),AA,qE,AA,AD (by decide) (by simp[w2];omega),AA,Xak]
  rfl) λm8 b8 h8=>?_
 have p8:xS m8 a [8,5,4,3,2,1]:=⟨λj=>by
  rw[h8 j,p5.h];by_cases hj:j=8
  ·subst hj;have:G a 8=if a.cW≠[] then some (a.cW.flatMap OG) else none:=rfl;simp[this]
  simp[hj]⟩
 dsimp only;have a1:wQ ((A7 m8 32).isNone=true)=some ():=by
  have hn:A7 m8 32=none:=by rw[p8.h,Wm (by decide)]
  unfold wQ;rw[hn];rfl
 rw[AC,a1,AA]
 refine ri (w:=Ky) (k:=32) (N:=1000000) (l:=a.oB) (by rw[OQ];omega) (λnext x i m b _ hb=>by
  rw[Pe] at hb;dsimp only;rw[UW,AA,AD (by decide) (by simp[w4];omega),AA,UW,AA,AD (by decide) (by simp[w4];omega),AA,UW,AA,AD (by decide) (by simp[w4];omega),AA,Xak,Xak]
  rfl) λm9 b9 h9=>?_
 have p9:xS m9 a [32,8,5,4,3,2,1]:=⟨λj=>by
  rw[h9 j,p8.h];by_cases hj:j=32
  ·subst hj;have:G a 32=if a.oB≠[] then some (a.oB.flatMap Ky) else none:=rfl;simp[this]
  simp[hj]⟩
 dsimp only;rw[AC];have J :∃U,xS U a [35,32,8,5,4,3,2,1]/\∀(F:Type) (q:I (Int×I S)->Option F),(if decide (a.vS≥0)=true then Wb (AQ a.vS 4) λH=>q (BN m9 35 H) else q m9)=q U:=by
  have:=v.t;have hG:G a 35=if a.vS≠-1 then some (w4 a.vS) else none:=rfl;by_cases h:a.vS≥0
  ·exact⟨_,p9.add 35 (by rw[hG,Wr (by omega)]),λF q=>by rw[Wr (by simpa using h),UW,AA]⟩
  exact⟨_,p9.skip 35 (by rw[hG,Wm (by omega)]),λF q=>by rw[Wm (by simpa using h)]⟩
 obtain⟨U,a8,aa⟩:=J;refine (aa _ (Mn a)).trans ?_;unfold Mn;refine (qN (a:=a) (by have:=v.e;omega) (λx hx=>by have:=(Ig v.O hx).2.2.2.2;omega) (λk b h=>by have:=pu v h;omega) λk=>?_).trans rfl;rw[a8.h];split
 ·rfl
 rename_i hk;simp only[Xa3,Xbs,Xel,not_or] at hk;unfold G;rw[Wm hk.2.2.2.2.2.2.2,Wm hk.2.2.2.2.2.2.1,Wm hk.2.2.2.2.2.1,Wm hk.2.2.2.2.1,Wm hk.2.2.2.1,Wm hk.2.2.1,Wm hk.2.1,Wm hk.1]
def mO {v:I gH}{k f:Int}{d:I S}{c:C}{ρ:Type}{K:I gH->O ρ}(Q:fl k=f)(U:v.length<=1000000) : AB (τ:=(I gH)) (λH=>AB (τ:=(I gH)) (λF=>if c=true then Wb (some (Xau (A7 EB k) 0)) λJ=>Wb (gN (α:=gH) 40 v ([(⟨J,k,d⟩:gH)]:I gH)) λM=>F M else F v ) λP=>H P ) K=K (v++if c=true then [⟨fl k,k,d⟩] else []):=by
 rw[AC,AC,QJ];cases c
 ·rw[Wm (by decide),Wm (by decide),Xaj]
 rw[Wr rfl,Wr rfl,AA,AD (by decide) (by simp;omega),AA]
def gx (a b:gH):B2 a b=some (DV (LP a) (LP b)):=aN a b
def PE:I Int:=[1,2,3,4,5,8,32,35]
def T9 (a:gE):I gH:=PE.flatMap (xB a)++a.iX
def XZ {a:gE}{k:Int}{y:gH}(h:y∈xB a k):k∈PE:=by
 obtain⟨b,F,_⟩:=Ko.1 h;rcases Nb k with ⟨e,_⟩|⟨e,_⟩|⟨e,_⟩|⟨e,_⟩|⟨e,_⟩|⟨e,_⟩|⟨e,_⟩|⟨e,_⟩|e;iterate 8 (subst e;decide)
 rw[UR e.2.2.2.2.2.2.2.2] at F;cases F
def lI {a:gE}{y:gH}:y∈T9 a↔(∃k,y∈xB a k)\/y∈a.iX:=by unfold T9;rw[X23,Xdw];exact⟨λh=>h.imp_left λ⟨k,_,h⟩=>⟨k,h⟩,λh=>h.imp_left λ⟨k,h⟩=>⟨k,XZ h,h⟩⟩
def iD {a:gE}(K:ET a.iX=true):(T9 a).Pairwise λx y=>LP x≠LP y:=by
 unfold T9;have H :∀{x y:gH},x.iB≠y.iB->LP x≠LP y:=λh e=>h (by simpa[LP] using e);refine Xbm.2 ⟨?_,(Ql K).imp λ{x y} h=>H (by simp only[xh,Wd] at h;omega),λx F y J=>H λe=>?_⟩
 ·rw[List.pairwise_flatMap];refine⟨λk _=>?_,?_⟩
  ·unfold xB;split
   ·exact List.pairwise_singleton _ _
   exact .nil
  have:PE.Pairwise (·≠·):=by decide
  exact this.imp λ{k j} h x F y J=>H (by rw[QW F,QW J];exact h)
 obtain⟨k,_,F⟩:=Xdw.1 F;obtain⟨b,M,_⟩:=Ko.1 F;have:=lC (Ig K J).1;rw[<- e,QW F] at this;rw[UR this] at M;cases M
def XY {a:gE}(F:ET a.iX=true)(M:(T9 a).length<=1000000):Gv B2 (T9 a)=some (yz a):=by
 obtain⟨r,J,H,K⟩:=fg K3 gx (l:=T9 a) (by omega);rw[J];congr 1;refine fP K3 (Wn K3 K ?_) (SN F) λx=>?_
 ·exact (H.pairwise_iff λh e=>h e.symm).2 (iD F)
 rw[H.mem_iff,lI,X3 F]
def rh {l:I gH}(Z:l.length<=1000)(U :∀x∈l,x.Data.length<=1000000){v:I gH}(hv:v.length<=1000){ρ:Type}{K:I gH->O ρ} : AB (τ:=(I gH)) (λM=>AI (σ:=(I gH)) (λH=>M H ) (λF (J:gH) i71 H=>Wb (B1 J.Data) λP=>Wb (gN (α:=gH) 40 H ([{ J with Data:=P }]:I gH)) λQ=>F Q ) l 0 v ) K=K (v++l):=by
 rw[AC];have e:l.flatMap (λx=>[x])=l:=by simp
 refine (WO (g:=λx:gH=>[x]) (N:=100000) (by rw[e];omega) λnext x i w V Y=>?_).trans (by rw[e]);have:=U x V;simp only[X22] at Y;unfold B1;rw[AD (by decide) (by simp;omega),AA,AA,Xay,AD (by decide) (by simp;omega),AA]
def UT (a:gE):(PE.flatMap (xB a)).length<=8:=UZ (Il a) PE
def Ur {a:gE}(v:VA a):(yz a).length<=16:=by have h:=OX (XY v.O (by unfold T9;rw[X11];have:=UT a;have:=v.e;omega));rw[h];unfold T9;rw[X11];have:=UT a;have:=v.e;omega
def ec {a:gE}(v:VA a){x:gH}(h:x∈yz a):x.Data.length<=768:=by
 rcases (X3 v.O).1 h with ⟨k,h⟩|h
 ·obtain⟨b,F,rfl⟩:=Ko.1 h;exact pu v F
 have:=(Ig v.O h).2.2.2.2;omega
def z8 (x:gH):C:=decide (0<=x.Flags)&&(decide (x.Flags<=255)&&(decide (0<=x.iB)&&(decide (x.iB<=255)&&decide ((x.Data.length:Int)<=65535))))
def Bs (x:gH):I S:=if decide ((x.Data.length:Int)>255)=true then ([(A4 ((Xa2 8 ((A4 ((Xa2 8 ((A4 x.Flags).toNat:Int) &&& Xa2 8 224).toNat:Int)).toNat:Int) ||| Xa2 8 16).toNat:Int)),(A4 x.iB),(A4 (Xas (x.Data.length:Int) (2^(min (Wo 8) 64)))),(A4 (x.Data.length:Int))]:I S)
 else ([(A4 ((Xa2 8 ((A4 x.Flags).toNat:Int) &&& Xa2 8 224).toNat:Int)),(A4 x.iB),(A4 (x.Data.length:Int))]:I S)
def TU (x:gH):I S:=Bs x++x.Data
def Gh (l:I gH):I S:=l.flatMap TU
def Dx (l:I gH):I S×Int:=if l.all z8=true then (if (Gh l).length>2048 then ([],3) else (Gh l,0)) else ([],1)
def Ud (x:gH):(TU x).length<=x.Data.length+4:=by unfold TU Bs;rw[X11];split<;>simp<;>omega
def Rt {N:Nat} :∀{l:I gH},(∀x∈l,x.Data.length<=N)->(Gh l).length<=l.length*(N+4)
 | [],_=>by simp[Gh]
 | x::t,h=>by have F:=Rt (l:=t) λy H=>h y (X19 _ H);have J:=Ud x;have K:=h x (by simp);unfold Gh at F⊢;rw[Xaw,X11,X12,X32];omega
def mj {x:gH}{v:I S}{ρ:Type}{K:I S->O ρ}(M:v.length+4<=1000000000) : AB (τ:=(I S)) (λF=>if (decide ((x.Data.length:Int)>255))=true then Wb (gN (α:=S) 1 v ([(A4 ((Xa2 8 ((A4 ((Xa2 8 ((A4 x.Flags).toNat:Int) &&& Xa2 8 224).toNat:Int)).toNat:Int) ||| Xa2 8 16).toNat:Int)),(A4 x.iB),(A4 (Xas (x.Data.length:Int) (2^(min (Wo 8) 64)))),(A4 (x.Data.length:Int))]:I S)) λH=>F H else Wb (gN (α:=S) 1 v ([(A4 ((Xa2 8 ((A4 x.Flags).toNat:Int) &&& Xa2 8 224).toNat:Int)),(A4 x.iB),(A4 (x.Data.length:Int))]:I S)) λJ=>F J ) K=K (v++Bs x):=by
 rw[AC];unfold Bs;split
 ·rw[AD (by decide) (by simp;omega),AA]
 rw[AD (by decide) (by simp;omega),AA]
def jv {l:I gH}(M:l.length<=1000)(P :∀x∈l,x.Data.length<=100000):Jy l=some (Dx l):=by
 have H:=Rt P;have F:l.length*(100000+4)<=1000*100004:=X31 _ M;unfold Jy Dx;rw[AC];refine (QP (g:=z8) (r0:=some ([],1)) λnext x i _=>?_).trans ?_
 ·have e:z8 x=!(decide (x.Flags<0) || (decide (x.Flags>255) || (decide (x.iB<0) || (decide (x.iB>255) || decide ((x.Data.length:Int)>65535))))):=by unfold z8;rw[X28];simp only[X27,Xbj,Bool.or_eq_false_iff,Wd,Xb0];omega
  rw[AC,e];cases decide (x.Flags < 0)<;>cases decide (x.Flags>255)<;>cases decide (x.iB < 0)<;>cases decide (x.iB>255)<;>cases decide ((x.Data.length:Int)>65535)<;>rfl
 cases Q:l.all z8
 ·rfl
 rw[Xcq,Wr rfl,AC];refine (WO (g:=TU) (N:=999999990) (by show [].length+(Gh l).length<=_;simp only[X13];omega) λnext x i v U J=>?_).trans ?_
 ·unfold TU at J⊢;rw[X11] at J;have V:(Bs x).length<=4/\3<=(Bs x).length:=by unfold Bs;split<;>simp
  rw[mj (by omega),AD (by decide) (by rw[X11];omega),AA,Xak]
 show (if decide (((Gh l).length:Int)>2048)=true then _ else _)=_;by_cases K:(Gh l).length>2048
 ·rw[Wr (by simp only[Wd];omega),Wr K]
 rw[Wm (by simp only[Wd];omega),Wm K];rfl
def jC {l:I gH}(V:l.length<=1000)(M :∀x∈l,x.Data.length<=100000):GG l=some (Dx l):=by
 unfold GG Dx;rw[AC];refine (QP (g:=z8) (r0:=some ([],1)) λnext x i _=>?_).trans ?_
 ·have e:z8 x=((decide (0<=x.Flags)&&decide (x.Flags<=255))&&((decide (0<=x.iB)&&decide (x.iB<=255))&&!decide ((x.Data.length:Int)>65535))):=by unfold z8;rw[X28];simp only[X27,Xbj,Wd,Xb0];omega
  rw[AC,e,HJ,AA,HJ];cases decide (0<=x.Flags)<;>cases decide (x.Flags<=255)<;>cases decide (0<=x.iB)<;>cases decide (x.iB<=255)<;>cases decide ((x.Data.length:Int)>65535)<;>rfl
 cases Y:l.all z8
 ·rfl
 rw[Xcq,Wr rfl,AC];have key :∀(K:I S->O (I S×Int)) (body:(I S->O (I S×Int))->gH->Nat->I S->O (I S×Int)),(∀next x i v,v.length<=2048->x.Data.length<=100000->body next x i v=if (v++TU x).length>2048 then some ([],3) else next (v++TU x))->
   ∀(t:I gH) (i:Nat) (v:I S),(∀x∈t,x.Data.length<=100000)->v.length<=2048->AI K body t i v=if (v++Gh t).length>2048 then some ([],3) else K (v++Gh t):=by
  intro K body P t;induction t with
  | nil=>
   intro i v _ H;have e:v++Gh []=v:=by simp[Gh]
   rw[e,Wm (by omega)];rfl
  | cons x t Q=>
   intro i v J H;show body (λs=>AI K body t (i+1) s) x i v=_;have e:v++Gh (x::t)=(v++TU x)++Gh t:=by unfold Gh;rw[Xaw,Xak]
   rw[P _ x i v H (J x (by simp)),e];by_cases F:(v++TU x).length>2048
   ·rw[Wr F,Wr (by rw[X11];omega)]
   rw[Wm F,Q (i+1) _ (λy U=>J y (X19 _ U)) (by omega)]
 refine (key _ _ (λnext x i v H Z=>?_) l 0 [] M (by simp)).trans ?_
 ·have hh:(Bs x).length<=4:=by unfold Bs;split<;>simp
  unfold TU;rw[mj (by omega),AD (by decide) (by rw[X11];omega),AA,Xak];by_cases F:(v++(Bs x++x.Data)).length>2048
  ·rw[Wr (by simp only[Wd];omega),Wr F]
  rw[Wm (by simp only[Wd];omega),Wm F]
 rw[Xay];split<;>rfl
def W5 {l:I gH}:(Dx l).1.length<=2048:=by
 unfold Dx;split
 ·split
  ·simp
  dsimp only;omega
 simp
structure VB (a:gE):Prop where
 o:-1<=a.gO/\a.gO<=2
 p:Dc a.Path=true
 n:a.Next.ok=true
 m:-1<=a.wo/\a.wo<=4294967295
 r:-1<=a.th/\a.th<=4294967295
 t:a.vS=-1\/(1<=a.vS/\a.vS<=4294967295)
 c:IW a.cW=true
 l:Ib a.oB=true
def VB.empty:VB eA:=⟨by decide,rfl,by decide,by decide,by decide,.inl rfl,rfl,rfl⟩
def yx (a:Addr):I S:=(Bq a).getD []
def MI {a:Addr}(h:a.ok=true):Bq a=some (yx a)/\(yx a).length=a.L:=by obtain⟨r,F,H,_⟩:=KA h;unfold yx;rw[F];exact⟨rfl,H⟩
def VN (p:fI):I S:=A4 p.vg::(yx p.Addr).take ((p.vg.toNat+7)/8)
def BB (six:C)(l:I fI):I S:=l.flatMap λp=>if (p.Addr.V6==six)=true then VN p else []
def DA (a:Addr):a.w=8*a.L/\a.L<=16:=by unfold Addr.w Addr.L;split<;>exact⟨rfl,by omega⟩
def Ry {p:fI}(h:B5 p):(VN p).length<=17:=by obtain⟨F,H,J,_⟩:=h;obtain⟨_,e2⟩:=MI F;have:=(DA p.Addr).2;unfold VN;simp only[X12,X18];omega
def KR (six:C)(p:fI)(t:I fI):BB six (p::t)=(if (p.Addr.V6==six)=true then VN p else [])++BB six t:=Xaw
def Bo {six:C} :∀{l:I fI},(∀p∈l,B5 p)->(BB six l).length<=17*l.length
 | [],_=>by simp[BB]
 | p::t,h=>by
  have H:=Ry (h p (by simp));have J:=Bo (six:=six) (l:=t) λq F=>h q (X19 _ F);rw[KR,X11,X12];split
  ·omega
  simp only[X13];omega
def OV {l:I fI}(hl:l.length<=100000)(hg :∀p∈l,B5 p)(six:C):E3 l six=some (BB six l):=by
 unfold E3;rw[AC];refine (Xh (λ(t:I fI) _ (s:I S)=>s.length+17*t.length<=10000000/\∀p∈t,B5 p) (λt _ s=>some (s++BB six t)) ?_ ?_ l 0 [] ⟨by simp only[X13];omega,hg⟩).trans ?_
 ·intro i s _;show some s=some (s++[]);rw[Xaj]
 ·rintro next p t i s ⟨M,H⟩ J
  simp only[X12] at M;have hp:=H p (by simp);have P:=Ry hp;have K :∀q∈t,B5 q:=λq Q=>H q (X19 _ Q);obtain⟨U,k2,k3,_⟩:=hp;obtain⟨e1,e2⟩:=MI U;obtain⟨w1,w2⟩:=DA p.Addr;rw[AC,KR];by_cases F:(p.Addr.V6==six)=true
  ·obtain⟨k,V⟩ :∃k:Nat,p.vg=k:=⟨p.vg.toNat,by omega⟩;have e3:AO (Int.tdiv (AO (p.vg+7)) 8)=(((p.vg.toNat+7)/8:Nat):Int):=by rw[V,Xaa,AG (x:=(k:Int)+7) (by omega),Int.tdiv_eq_ediv_of_nonneg (by omega),AG (by omega)];omega
   have e4:(p.vg.toNat+7)/8<=p.Addr.L:=by omega
   have Y:wQ (0<=(0:Int)/\(0:Int)<=(((p.vg.toNat+7)/8:Nat):Int)/\(((p.vg.toNat+7)/8:Nat):Int)<=((yx p.Addr).length:Int))=some ():=Wr (by rw[e2];omega);have Z:Xbx (Wo (((p.vg.toNat+7)/8:Nat):Int)-Wo 0) (Xc2 (Wo 0) (yx p.Addr))=(yx p.Addr).take ((p.vg.toNat+7)/8):=by rw[Xaa];rfl
   rw[Wr F,Wr F,AD (by decide) (by simp only[X22];omega),AA,e1,AA,e3,Y,AA,Z, AD (by decide) (by simp only[X11,X22,X18];omega),AA];dsimp only
   rw[J _ ⟨by
    simp only[X11,X22,X18]
    omega,K⟩]
   unfold VN;simp only[Xak,List.singleton_append,List.cons_append,Xay]
  rw[Wm F,Wm F];dsimp only;rw[J _ ⟨by omega,K⟩,Xay]
 rw[Xay]
def eE {l:I gH}(U:l.length<=1000000)(x:gH):HL l x=some (Kz xh l x):=by unfold HL;have P:=pH (p:=(xh · x)) (l:=l) (by omega) (g:=λy k=>k (cond true (decide (y.iB<x.iB)) false)) (λy _ k=>rfl) (K:=λJ=>Wb (part l 0 J) λM=>Wb (gN (α:=gH) 40 [] M) λ_=>Wb (gN (α:=gH) 40 M ([x]:I gH)) λQ=>Wb (part l J (l.length:Int)) λF=>Wb (gN (α:=gH) 40 Q F) λH=>some H);refine Xev P ?_;exact ko (K:=some) (b:=40) (lt:=xh) (l:=l) (x:=x) (by decide) (by omega)
def w9 (u:tT):I gH:=if 0<u.fT.length then yz u.gE else []
def Kx (u:tT):I gH:=if 0<(BB true u.fT).length then Kz xh (w9 u) ⟨128,14,[0,2,1,16]++yx u.gE.Next++[0]++BB true u.fT⟩ else w9 u
def Eb (u:tT):I gH:=if 0<(BB true u.gS).length then Kz xh (Kx u) ⟨128,15,[0,2,1]++BB true u.gS⟩ else Kx u
def two (n:Nat):I S:=[A4 (Xas (n:Int) (2^(min (Wo 8) 64))),A4 (n:Int)]
def M9 (u:tT)(a:I S):I S:=two (BB false u.gS).length++BB false u.gS++two a.length++a++BB false u.fT
def E5 (u:tT):I S×Int:=if (Dx (Eb u)).2≠0 then ([],(Dx (Eb u)).2) else (M9 u (Dx (Eb u)).1,0)
structure yW (u:tT):Prop where
 w:u.gS.length<=1000
 n:u.fT.length<=1000
 gw :∀p∈u.gS,B5 p
 ga :∀p∈u.fT,B5 p
 a:0<u.fT.length->VA u.gE/\(yz u.gE).length<=16/\∀x∈yz u.gE,x.Data.length<=768
def XI {u:tT}(g:yW u):HT u=some (E5 u):=by
 have a1:=Bo (six:=true) g.gw;have a6:=Bo (six:=false) g.gw;have a7:=Bo (six:=true) g.ga;have a8:=Bo (six:=false) g.ga;have hw:=g.w;have hn:=g.n;have Z:(w9 u).length<=16/\∀x∈w9 u,x.Data.length<=768:=by
  unfold w9;split
  ·exact (g.a ‹_›).2
  simp
 unfold HT;have e0 :∀(K:I gH->O (I S×Int)),AB (τ:=(I gH)) (λk1=>if (decide ((u.fT.length:Int)>0)) then Wb (Ha u.gE) λ(v2,v3)=>if (v3 !=0) then some ([],v3) else k1 v2 else k1 []) K=K (w9 u):=by
  intro K;rw[AC];unfold w9;by_cases h:0<u.fT.length
  ·rw[Wr (by simp only[Wd];omega),Wr h,iH (g.a h).1,AA];exact Wm (by simp)
  rw[Wm (by simp only[Wd];omega),Wm h]
 rw[e0];rw[OV (by omega) g.ga,AA];have hL:(yx u.gE.Next).length<=16\/u.fT.length=0:=by
  rcases Nat.eq_zero_or_pos u.fT.length with h|h
  ·exact .inr h
  have:=(MI (g.a h).1.n).2;have:=(DA u.gE.Next).2;exact .inl (by omega)
 have e1 :∀{H:Type} (K:I gH->O H),AB (τ:=(I gH)) (λk6=>if (decide (((BB true u.fT).length:Int)>0)) then Wb (Bq u.gE.Next) λv7=>Wb (gN (α:=S) 1 ([(0:S),(2:S),(1:S),(16:S)]:I S) v7) λv8=>Wb (gN (α:=S) 1 v8 ([(0:S)]:I S)) λv9=>Wb (gN (α:=S) 1 v9 (BB true u.fT)) λP=>Wb (HL (w9 u) (⟨128,14,P⟩:gH)) λQ=>k6 Q else k6 (w9 u)) K=K (Kx u):=by
  intro H K;rw[AC];unfold Kx;by_cases h:0<(BB true u.fT).length
  ·have J:0<u.fT.length:=by omega
   have hl:(yx u.gE.Next).length<=16:=hL.resolve_right (by omega);rw[Wr (by simp only[Wd];omega),Wr h,(MI (g.a J).1.n).1,AA,AD (by decide) (by simp only[X12,X13];omega),AA, AD (by decide) (by simp only[X11,X12,X13];omega),AA,AD (by decide) (by simp only[X11,X12,X13];omega),AA,eE (by omega),AA]
  rw[Wm (by simp only[Wd];omega),Wm h]
 rw[e1,OV (by omega) g.gw,AA];have h1:(Kx u).length<=17/\∀x∈Kx u,x.Data.length<=20000:=by
  unfold Kx;split
  ·refine⟨by rw[Hw];omega,λx F=>?_⟩;rcases Fq.1 F with F|rfl
   ·have:=Z.2 x F;omega
   have hl:(yx u.gE.Next).length<=16:=hL.resolve_right (by omega);simp only[X11,X12,X13];omega
  exact⟨by omega,λx F=>by have:=Z.2 x F;omega⟩
 have e2 :∀{H:Type} (K:I gH->O H),AB (τ:=(I gH)) (λM=>if (decide (((BB true u.gS).length:Int)>0)) then Wb (gN (α:=S) 1 ([(0:S),(2:S),(1:S)]:I S) (BB true u.gS)) λU=>Wb (HL (Kx u) (⟨128,15,U⟩:gH)) λV=>M V else M (Kx u)) K=K (Eb u):=by
  intro H K;rw[AC];unfold Eb;by_cases h:0<(BB true u.gS).length
  ·rw[Wr (by simp only[Wd];omega),Wr h,AD (by decide) (by simp only[X12,X13];omega),AA,eE (by omega),AA]
  rw[Wm (by simp only[Wd];omega),Wm h]
 rw[e2];have h2:(Eb u).length<=18/\∀x∈Eb u,x.Data.length<=20000:=by
  unfold Eb;split
  ·refine⟨by rw[Hw];omega,λx F=>?_⟩;rcases Fq.1 F with F|rfl
   ·exact h1.2 x F
   simp only[X11,X12,X13];omega
  exact⟨by omega,h1.2⟩
 rw[jv (by omega) (λx F=>by have:=h2.2 x F;omega),AA];have hj:=W5 (l:=Eb u);unfold E5;dsimp only;by_cases he:(Dx (Eb u)).2=0
 ·have Y:¬ (Dx (Eb u)).2≠0:=λq=>q he;rw[Wm (by rw[he];decide),Wm Y,OV (by omega) g.gw,AA,AD (by decide) (by simp only[X12,X13];omega),AA, AD (by decide) (by simp only[X11,X12,X13];omega),AA,AD (by decide) (by simp only[X11,X12,X13];omega),AA, OV (by omega) g.ga,AA,AD (by decide) (by simp only[X11,X12,X13];omega),AA];rfl
 rw[Wr (by simpa using he),Wr he]
def rW {a:Addr}(h:a.ok=true){j:Nat}(F:j<a.L):(yx a)[j]?=some (QV a (a.L-1-j)):=by obtain⟨r,H,K,J⟩:=KA h;unfold yx;rw[H];exact J j F
def sk (x:gH):C:=x.iB !=14&&x.iB !=15
def r7 {x:gH}(h:sk x=false):x.iB=14\/x.iB=15:=by unfold sk at h;simp only[Bool.and_eq_false_iff,bne_eq_false_iff_eq] at h;exact h
def qR {x:gH}(h:sk x=false):yP x.iB=false/\fl x.iB=0:=by rcases r7 h with e|e<;>rw[e]<;>decide
def WI {p:gH->C}{l:I gH}{x:gH}(h:p x=false):(Kz xh l x).filter p=l.filter p:=by unfold Kz;rw[Xbt,List.filter_cons,Wm (by rw[h];decide),<- Xbt,Xet]
def yL (u:tT):gH:=⟨128,14,[0,2,1,16]++yx u.gE.Next++[0]++BB true u.fT⟩
def zf (u:tT):gH:=⟨128,15,[0,2,1]++BB true u.gS⟩
def ez (u:tT):Kx u=if 0<(BB true u.fT).length then Kz xh (w9 u) (yL u) else w9 u:=rfl
def ef (u:tT):Eb u=if 0<(BB true u.gS).length then Kz xh (Kx u) (zf u) else Kx u:=rfl
def Wx {six:C} :∀{l:I fI},BB six l=[]↔l.filter (λp=>p.Addr.V6==six)=[]
 | []=>by simp[BB]
 | p::t=>by
  rw[KR,List.filter_cons];by_cases F:(p.Addr.V6==six)=true
  ·rw[Wr F,Wr F];unfold VN;simp
  rw[Wm F,Wm F,Xay];exact Wx
def jD {six:C}{l:I fI}:0<(BB six l).length↔l.filter (λp=>p.Addr.V6==six)≠[]:=by rw[Xch,ne_eq,Wx]
structure Ex (u:tT):Prop where
 g:yW u
 w:u.gS.length<=256
 n:u.fT.length<=256
 s :∀p∈u.fT,p.Addr.V6=u.gE.Next.V6
 o:u.fT≠[]->u.gE.gO≠-1/\u.gE.Next≠zI
def Y7 {a:gE}(v:VA a){x:gH}(h:x∈yz a):sk x=true/\(x.Flags=64\/x.Flags=128\/x.Flags=192\/x.Flags=224)/\0<=x.iB/\x.iB<=255:=by
 rcases (X3 v.O).1 h with ⟨k,h⟩|h
 ·obtain⟨b,F,rfl⟩:=Ko.1 h;rcases Nb k with ⟨e,f⟩|⟨e,f⟩|⟨e,f⟩|⟨e,f⟩|⟨e,f⟩|⟨e,f⟩|⟨e,f⟩|⟨e,f⟩|⟨_,_,_,_,_,_,_,_,f⟩;iterate 8
   ·subst e;unfold sk;dsimp only;rw[f];decide
  rw[UR f] at F;cases F
 obtain⟨H,M,P,J,_⟩:=Ig v.O h;refine⟨?_,.inr (.inr (.inr J)),by omega,by omega⟩;cases K:sk x with
 | true=>rfl
 | false=>rw[(qR K).1] at H;cases H
def pV {l:I gH}(h :∀x∈l,sk x=true):YV l 14=[]/\YV l 15=[]/\l.filter sk=l:=by
 refine⟨?_,?_,Xd1.2 h⟩
 ·unfold YV;rw[Xdj];intro x F q;have:=h x F;unfold sk at this;simp only[X27,Xeo] at this;exact this.1 (by simpa using q)
 unfold YV;rw[Xdj];intro x F q;have:=h x F;unfold sk at this;simp only[X27,Xeo] at this;exact this.2 (by simpa using q)
def filter_all {l:I fI}{b:C}(h :∀p∈l,p.Addr.V6=b):(l.filter λp=>p.Addr.V6==false)++(l.filter λp=>p.Addr.V6==true)=l:=by
 cases b with
 | false=>rw[Xd1.2 (λp hp=>by rw[h p hp];rfl),Xdj.2 (λp hp=>by rw[h p hp];decide),Xaj]
 | true=>rw[Xdj.2 (λp hp=>by rw[h p hp];decide),Xd1.2 (λp hp=>by rw[h p hp];rfl),Xay]
def IF (p:fI):C:=(A8 p).getD false
def Lx (p:fI):A8 p=some (IF p)/\(IF p=true↔B5 p):=by obtain⟨b,F,H⟩:=Hk p;unfold IF;rw[F];exact⟨rfl,H⟩
def zS (a:gE):C:=(Dv a eA).getD false
theorem cY (a:gE):Dv a eA=some (zS a):=by obtain⟨b,h⟩:=(inferInstance:Tt (Dv a eA)).h;unfold zS;rw[h];rfl
def QI (a:gE)(p:fI):C:=(p.Addr.V6==a.Next.V6)&&((a.gO !=-1)&&(!(Addr.wa a.Next zI)&&EY a))
def YX (u:tT):C:=((E5 u).2==0)&&decide ((E5 u).1.length<=4077)
def Em (u:tT):C:=decide (u.gS.length<=256)&&(decide (u.fT.length<=256)&&((u.gS++u.fT).all IF&&((!(decide (u.fT=[])) || zS u.gE)&&(u.fT.all (QI u.gE)&&YX u))))
def S7 {u:tT}(M:xH u.gE)(hw:u.gS.length<=1000)(hn:u.fT.length<=1000)(P :∀{a:gE},VA a->(yz a).length<=16):HM u=some (Em u):=by
 unfold HM Em;rw[AC];by_cases h1:u.gS.length<=256;case neg=>rw[Wr (by simp only[Wd];omega),Xa5 h1];rfl
 rw[Wm (by simp only[Wd];omega),Wz h1];dsimp only;by_cases K:u.fT.length<=256;case neg=>rw[Xa5 K,Wr (by simp only[Xcn,Wd];omega)];rfl
 rw[Wz K,Wm (by simp only[Xcn,Wd];omega),AD (by decide) (by simp only[X13];omega),AA,AD (by decide) (by omega),AA,AC]
 refine (QP (g:=IF) (r0:=some false) λnext p i _=>by
  rw[(Lx p).1,AA]
  cases IF p<;>rfl).trans ?_
 cases hg:(u.gS++u.fT).all IF with
 | false=>rfl
 | true=>
  have F :∀p∈u.gS++u.fT,B5 p:=λp hp=>(Lx p).2.1 (Xa0.1 hg p hp);simp only[Xcq,Xce];rw[AC];have Q:EJ=some eA:=rfl;by_cases H:u.fT=[]
  ·rw[Wr ((tf _).2 H),Q,AA,cY,AA,Wz H];cases he:zS u.gE with
   | false=>rfl
   | true=>
    simp only[Bool.not_true,Xcq,Bool.false_or,Xce];rw[Wm (by decide),AC,H];show Wb (HT u) _=_;have g:yW u:=⟨by omega,by omega,λp hp=>F p (Xcr _ hp),(λp hp=>by rw[H] at hp;cases hp),λq=>by rw[H] at q;cases q⟩;rw[XI g,AA];unfold YX;rw[AC];have e:decide (((E5 u).1.length:Int)<=4077)=decide ((E5 u).1.length<=4077):=by rw[Xek];omega
    rw[e];cases ((E5 u).2==0)<;>cases decide ((E5 u).1.length<=4077)<;>rfl
  rw[Wm (λq=>H ((tf _).1 q)),Xa5 H];simp only[Bool.not_false,Bool.true_or,Xce];rw[Wm (by decide),AC]
  refine (QP (g:=QI u.gE) (r0:=some false) λnext p i _=>by
   rw[AC,OK M,AA];unfold QI;have U:Addr.wa u.gE.Next (⟨false,(0:j),(0:j)⟩:Addr)=Addr.wa u.gE.Next zI:=rfl;have V:(u.gE.gO==(-1))=!(u.gE.gO !=-1):=(Bool.not_not _).symm;rw[U,V]
   cases (p.Addr.V6==u.gE.Next.V6)<;>cases (u.gE.gO !=-1)<;>cases Addr.wa u.gE.Next zI<;>cases EY u.gE<;>rfl).trans ?_
  cases Y:u.fT.all (QI u.gE) with
  | false=>rfl
  | true=>
   simp only[Xcq,Xce];have J:VA u.gE:=by obtain⟨p,hp⟩:=List.exists_mem_of_ne_nil _ H;have:=Xa0.1 Y p hp;unfold QI at this;simp only[X27] at this;exact Ns.1 this.2.2.2
   have g:yW u:=⟨by omega,by omega,λp hp=>F p (Xcr _ hp),λp hp=>F p (Xdp _ hp),λ_=>⟨J,P J,λx Z=>ec J Z⟩⟩;rw[XI g,AA];unfold YX;rw[AC];have e:decide (((E5 u).1.length:Int)<=4077)=decide ((E5 u).1.length<=4077):=by rw[Xek];omega
   rw[e];cases ((E5 u).2==0)<;>cases decide ((E5 u).1.length<=4077)<;>rfl
end Go.AX.Q25
end
