/-
  Texts of one proof, packed.
-/
import Derived.Test.YtppcmaidcgimpaaGreatDoorU15
import Derived.Test.YtppcmaidcgimpaaGreatDoorU16
set_option linter.all false
set_option maxRecDepth 100000
set_option maxHeartbeats 4000000
open List renaming length_map→X10,length_append→X11,mem_singleton→X14,getElem?_eq_getElem→X15,length_drop→X17,length_take→X18,length_replicate→X20,length_set→X21,length_singleton→X22
open Option.some renaming injEq→X24
open Prod.mk renaming injEq→X26
open Nat renaming mul_le_mul_right→X31,add_mul→X32
open Option renaming isSome→Xdy
open List renaming map→Xa1
open Go.Builtin renaming zeroCells→Xao,append_→Xcg
open Go renaming run_underlying→Xa7,maxLen→Xb3,undef→Xck,typeInfo→Xer
open Go.Proofs.Tryz renaming prog→Xa9,underlying25→Xb5,underlying3→Xc0,underlying4→Xc8
open Go.World renaming cell?_setCells_out→Xbc
open Go.IntKind renaming i64→Xdt
open Go.Addr renaming add_lit→Xeg
section
namespace Go.AX.Q25
open Go Go.AX Go.Shelf Go.RowKit Go.Lib Go.Proofs
namespace I55
section
variable (k:Nat) (zE :∀w,(Go.sizeOf 71).run Tryz.prog w=.ok k w) (w8:(Tryz.prog.info? 71).map (·.size)=some k) (hk:0<k)
include zE w8 hk
theorem jK (b off n c i H P Z:Nat)(J Y:I A)(w:B)(hi:i<n)(ab:n+1<=c)(ay:c<=9223372036854775807)(a1:H≠b) (ae:J.length=n*k) (af:Y.length=k) (ag :∀j v,J[j]?=some v->w.cell? ⟨b,off+j,none⟩=some v) (Q :∀j,j<(n+1)*k->(w.cell? ⟨b,off+j,none⟩).isSome=true) (a6 :∀j,j<(n+1)*k->w.frozen? ⟨b,off+j,none⟩=false) (ah :∀j v,Y[j]?=some v->w.cell? ⟨H,P+j,none⟩=some v) (ai :∀v∈J,v.oneCell'=true) (aj :∀v∈Y,v.oneCell'=true) (tA tB:TypeId) (kA kB:Nat) (ak:w.shape? H=some (tA,kA)) (al:w.shape? b=some (tB,kB)) (an:kB≠0) (ao:w.frozen? ⟨H,P,none⟩=false) (ap:w.frozen? ⟨H,kA,none⟩=false) : Calls Xa9 55 #[.slice (some ⟨b,off,none⟩) n c,.int .i64 i,.slice (some ⟨H,P,none⟩) 1 Z] w λe w'=> e=.returned (.slice (some ⟨b,off,none⟩) (n+1) c)/\w'=(w.drew.setCells b (off+(i*k+k)) (J.drop (i*k))).setCells b (off+i*k) Y:=by
 have b0:=Xa7 Xb5;have u9:=Xa7 Tryz.underlying71;have u3:=Xa7 Xc0;have u4:=Xa7 Xc8;have aq:Xa9.follows .mixedOrders=true:=by kernel_rfl
 have ba:¬ ((i:Int)=(n:Int)):=by omega
 have ar :∀o lb cb,(callFunc 110 #[.slice (some ⟨H,P,none⟩) 1 Z,.slice (some ⟨b,o,none⟩) lb cb]).run Xa9 w=.ok (.value (.bool false)) w:=λo lb cb=>by rw[run_callFunc_extern Tryz.func110 (by kernel_rfl) (by kernel_rfl) (by kernel_rfl) (e:=Extern.SlicesOverlaps.overlaps #[25,25] #[4]) (by kernel_rfl), Lib.run_overlaps_apart w 25 4 71 Xb5 k zE ⟨H,P,none⟩ ⟨b,o,none⟩ 1 Z lb cb a1 tA tB kA kB ak al an ao ap];rfl
 have az:i*k<=n*k:=X31 _ (by omega);have e1:(i+1)*k=i*k+k:=Xe1 i k;have e2:(n+1)*k=n*k+k:=Xe1 n k;have e3:(n-i)*k=n*k-i*k:=Nat.sub_mul n i k;have au:(J.drop (i*k)).length=(n-i)*k:=by rw[X17,ae,e3]
 have bb:Xdt.wrap ((i:Int)+1)=(i:Int)+1:=by rw[IntKind.wrap_i64];omega
 have bc:(0:Int)<=(i:Int)+1:=by omega
 have bd:i<=n:=by omega
 have be:((i:Int)+1).toNat=i+1:=by omega
 have bf:¬ (c=i+1):=by omega
 have bg:(i:Int)<=(n:Int)+1:=by omega
 have bh:¬ (c=i):=by omega
 have K :∀U V sc,(Builtin.copy_ #[25,25] U #[.slice (some ⟨b,off+(i*k+k),none⟩) (n-i) V,.slice (some ⟨b,off+i*k,none⟩) (n+1-i) sc]).run Xa9 w.drew=.ok (goInt ((n-i:Nat):Int)) (w.drew.setCells b (off+(i*k+k)) (J.drop (i*k))):=λU V sc=>
  OR w.drew 25 25 U 71 k (n-i) b (off+(i*k+k)) (n-i) V ⟨b,off+i*k,none⟩ (n+1-i) sc (J.drop (i*k)) Xb5 w8 (by simp only[Nat.min_def];split<;>omega) au
   (λj v M=>by rw[Xeg,Xal];exact ag (i*k+j) v (by rwa [Xeu] at M))
   (λj M=>by rw[Xal];exact Q _ (by omega)) (λj M=>by rw[Xal];exact a6 _ (by omega)) (λv hv=>ai v (Xdd hv))
 obtain⟨W1,F⟩ :∃W1,W1=w.drew.setCells b (off+(i*k+k)) (J.drop (i*k)):=⟨_,rfl⟩;have a7 :∀q,q<(n+1)*k->(W1.cell? ⟨b,off+q,none⟩).isSome=true:=λq hq=>by rw[F];exact isSome_setCells b _ _ _ (λj M=>by rw[Xal];exact Q _ (by omega)) _ (Q q hq)
 have a8 :∀(W:B),(∀x,W.cell? x=W1.cell? x)->(∀x,W.frozen? x=W1.frozen? x)->∀U V,(Builtin.copy_ #[25,25] U #[.slice (some ⟨b,off+i*k,none⟩) (n+1-i) V,.slice (some ⟨H,P,none⟩) 1 Z]).run Xa9 W=.ok (goInt ((1:Nat):Int)) (W.setCells b (off+i*k) Y):=λW aa ax U V=>
  OR W 25 25 U 71 k 1 b (off+i*k) (n+1-i) V ⟨H,P,none⟩ 1 Z Y Xb5 w8 (by simp only[Nat.min_def];split<;>omega) (by rw[af,Nat.one_mul])
   (λj v M=>by
    rw[Xeg,aa,F,Xbc b _ _ _ _ (λh _=>absurd h a1)]
    exact ah j v M)
   (λj M=>by rw[aa,Xal];exact a7 _ (by omega)) (λj M=>by rw[ax,F,World.frozen?_setCells,Xal];exact a6 _ (by omega)) aj
 rw[<- F] at K
 go_enter Tryz.func55,Tryz.ntmps55
 go_wp2_with (simp only[ar])
 go_region_law_o (refine step_copy_runI rfl _ _ 25 25 rfl _ _ (by simp[Act.eval,Act.put]) (by simp[Act.eval,Act.put]) (K _ _ _) ?_)
 go_wp2_with (at_builtin;refine wpList_copy_runI _ rfl _ _ 25 25 rfl _ _ rfl rfl (a8 _ (λ_=>rfl) (λ_=>rfl) _ _) ?_)
 go_ret
 first|exact⟨rfl,rfl⟩|exact⟨rfl,by rw[F]⟩
end
section
variable (i0:TypeInfo) (z:A) (hi0:Tryz.prog.info? 71=some i0) (hz0:i0.zero=some z)
include hi0 hz0
theorem Ze (b off n c J K U:Nat)(F:I A)(w:B)(H:n+1<=c)(a7:c<=9223372036854775807) (M:F.length=i0.size) (V :∀j,j<i0.size->(w.cell? ⟨b,off+n*i0.size+j,none⟩).isSome=true) (Y :∀j,j<i0.size->w.frozen? ⟨b,off+n*i0.size+j,none⟩=false) (Z :∀j v,F[j]?=some v->w.cell? ⟨J,K+j,none⟩=some v) (a1 :∀v∈F,v.oneCell'=true) : Calls Xa9 55 #[.slice (some ⟨b,off,none⟩) n c,.int .i64 n,.slice (some ⟨J,K,none⟩) 1 U] w λe w'=> e=.returned (.slice (some ⟨b,off,none⟩) (n+1) c)/\w'=w.setCells b (off+n*i0.size) F:=by
 have a8:=Xa7 Xb5;have u9:=Xa7 Tryz.underlying71;have u3:=Xa7 Xc0;have u4:=Xa7 Xc8;have zE :∀w,(Go.sizeOf 71).run Xa9 w=.ok i0.size w:=λw=>by first|(simp[sizeOf,Xer,hi0];done)|(simp[sizeOf,Xer];simpa using Xa4 (Option.map TypeInfo.size) hi0)
 have a6:Xa9.follows .mixedOrders=true:=by kernel_rfl
 have P:Src Xa9 i0.size 25 (.slice (some ⟨J,K,none⟩) 1 U) 1 F w:=Src.ofSlice w Xb5 ⟨J,K,none⟩ 1 U F (by omega) (λj u hj=>by rw[Xeg];exact Z j u hj) a1;have Q :∀ty,(Xcg #[25,25] ty #[.slice (some ⟨b,off,none⟩) n c,.slice (some ⟨J,K,none⟩) 1 U]).run Xa9 w=_:=λty=>
  run_append_room_src w 25 25 ty 71 i0 Xb5 hi0 b off n c _ 1 F P H (by rw[M];exact V) (by rw[M];exact Y)
 go_enter Tryz.func55,Tryz.ntmps55
 go_wp2_with (at_builtin;refine Lib.wpList_append_run _ rfl _ _ _ _ rfl _ _ rfl rfl _ _ (Q _) ?_)
 go_ret
 exact⟨rfl,rfl⟩
theorem TP (base:O Go.Addr)(n c P Q U:Nat)(K M:I A)(w:B)(ag:n<=c)(F:c<n+1)(V:(n+1)*i0.bytes<=140737488355328)(af:n<=140737488355328) (Y:K.length=n*i0.size) (ah:M.length=i0.size) (J:base=none->n=0) (a6 :∀a,base=some a->∀j v,K[j]?=some v->w.cell? (a.add j)=some v) (a7 :∀j v,M[j]?=some v->w.cell? ⟨P,Q+j,none⟩=some v) (a8 :∀v∈M,v.oneCell'=true) : Calls Xa9 55 #[.slice base n c,.int .i64 n,.slice (some ⟨P,Q,none⟩) 1 U] w λe w'=> e=.returned (.slice (some ⟨w.heap.size,0,none⟩) (n+1) (grownCap w (n+1) c 71))/\ w'=w.drew.alloc (.cells ((K++M).toArray++Xao z.cells (grownCap w (n+1) c 71-(n+1))) 71):=by
 have ai:=Xa7 Xb5;have u9:=Xa7 Tryz.underlying71;have u3:=Xa7 Xc0;have u4:=Xa7 Xc8;have zE :∀w,(Go.sizeOf 71).run Xa9 w=.ok i0.size w:=λw=>by first|(simp[sizeOf,Xer,hi0];done)|(simp[sizeOf,Xer];simpa using Xa4 (Option.map TypeInfo.size) hi0)
 have aa:Xa9.follows .mixedOrders=true:=by kernel_rfl
 have Z:Src Xa9 i0.size 25 (.slice (some ⟨P,Q,none⟩) 1 U) 1 M w:=Src.ofSlice w Xb5 ⟨P,Q,none⟩ 1 U M (by omega) (λj u hj=>by rw[Xeg];exact a7 j u hj) a8;have a1:(Builtin.firstCells i0.size n (.slice base n c)).run Xa9 w.drew=.ok K.toArray w.drew:=by
  cases base with
  | none=>have h0:=J rfl;subst h0;have ae:K=[]:=Xcm.1 (by rw[Y,Nat.zero_mul]);rw[ae];exact run_firstCells_none w.drew i0.size 0 0 c
  | some a=>exact run_firstCells_some w.drew i0.size n a n c K Y (λj v hj=>a6 a rfl j v hj)
 have H :∀ty,(Xcg #[25,25] ty #[.slice base n c,.slice (some ⟨P,Q,none⟩) 1 U]).run Xa9 w=_:=λty=>
  run_append_grow_src w 25 25 ty 71 i0 _ Xb5 hi0 hz0 base n c K a1 _ 1 M Z F (by omega) (growslice_fits F V)
 clear hz0;generalize z.cells=zc at H⊢;cases base with
 | none=>
  have h0:=J rfl;subst h0;show Calls Xa9 55 #[.slice none 0 c,.int .i64 0,.slice (some ⟨P,Q,none⟩) 1 U] w _
  go_enter Tryz.func55,Tryz.ntmps55
  go_wp2_with (at_builtin;refine Lib.wpList_append_run _ rfl _ _ _ _ rfl _ _ rfl rfl _ _ (H _) ?_)
  go_ret
  exact⟨rfl,rfl⟩
 | some a=>
  obtain⟨ab,ao,aj⟩:=a
  go_enter Tryz.func55,Tryz.ntmps55
  go_wp2_with (at_builtin;refine Lib.wpList_append_run _ rfl _ _ _ _ rfl _ _ rfl rfl _ _ (H _) ?_)
  all_goals (go_ret;exact⟨rfl,rfl⟩)
theorem kg (hzs:z.cells.size=i0.size)(b off n c i Z vo vc:Nat)(H M:I A)(w:B)(hi:i<n)(bj:n<=c)(a7:c<n+1)(ae:(n+1)*i0.bytes<=140737488355328)(bf:n<=140737488355328) (af:H.length=n*i0.size) (bk:M.length=i0.size) (hk:0<i0.size) (a8 :∀j v,H[j]?=some v->w.cell? ⟨b,off+j,none⟩=some v) (ag :∀j v,M[j]?=some v->w.cell? ⟨Z,vo+j,none⟩=some v) (an :∀v∈H,v.oneCell'=true) (ao :∀v∈M,v.oneCell'=true) : Calls Xa9 55 #[.slice (some ⟨b,off,none⟩) n c,.int .i64 i,.slice (some ⟨Z,vo,none⟩) 1 vc] w λe w'=> e=.returned (.slice (some ⟨w.heap.size,0,none⟩) (n+1) (grownCap w (n+1) c 71))/\ w'=(((w.alloc (.cells ((H.take (i*i0.size)).toArray++Xao z.cells (n+1-i)++Xao z.cells (grownCap w (n+1) c 71-(n+1))) 71)).drew.setCells w.heap.size (i*i0.size) M).drew).setCells w.heap.size (i*i0.size+i0.size) (H.drop (i*i0.size)):=by
 have bl:=Xa7 Xb5;have u9:=Xa7 Tryz.underlying71;have u3:=Xa7 Xc0;have u4:=Xa7 Xc8;have zE :∀w,(Go.sizeOf 71).run Xa9 w=.ok i0.size w:=λw=>by first|(simp[sizeOf,Xer,hi0];done)|(simp[sizeOf,Xer];simpa using Xa4 (Option.map TypeInfo.size) hi0)
 have ap:Xa9.follows .mixedOrders=true:=by kernel_rfl
 have w8:(Xa9.info? 71).map (·.size)=some i0.size:=by rw[hi0];rfl
 have bm:¬ ((i:Int)=(n:Int)):=by omega
 have bn:(c:Int)<(n:Int)+1:=by omega
 have ah:i*i0.size<=n*i0.size:=X31 _ (by omega);have e1:(i+1)*i0.size=i*i0.size+i0.size:=Xe1 i i0.size;have e2:(n+1)*i0.size=n*i0.size+i0.size:=Xe1 n i0.size;have e3:(n-i)*i0.size=n*i0.size-i*i0.size:=Nat.sub_mul n i i0.size;have bg:0<n*i0.size:=Nat.mul_pos (by omega) hk;have aq:b<w.heap.size:=block_lt_of_cell (a8 0 _ (X15 (by omega)));have ar:Z<w.heap.size:=block_lt_of_cell (ag 0 _ (X15 (by omega)));have ai:(n:Int)+1-(i:Int)=((n+1-i:Nat):Int):=by omega
 have aa:i+(n+1-i)=n+1:=by omega
 have a1:(Builtin.firstCells i0.size i (.slice (some ⟨b,off,none⟩) i c)).run Xa9 w.drew=.ok (H.take (i*i0.size)).toArray w.drew:=by
  exact run_firstCells_some w.drew i0.size i ⟨b,off,none⟩ i c (H.take (i*i0.size)) (by rw[X18];omega) (λj v J=>by
   rw[Xeg];rw[List.getElem?_take] at J;split at J
   ·exact a8 j v J
   cases J)
 have P :∀Q,(Xcg #[25,3] Q #[.slice (some ⟨b,off,none⟩) i c,.int .i64 ((n:Int)+1-(i:Int))]).run Xa9 w =
   .ok (.slice (some ⟨w.heap.size,0,none⟩) (n+1) (grownCap w (n+1) c 71)) (w.drew.alloc (.cells ((H.take (i*i0.size)).toArray++Xao z.cells (n+1-i)++Xao z.cells (grownCap w (n+1) c 71-(n+1))) 71)):=λQ=>by
  have au:(n+1-i)*i0.bytes<=(n+1)*i0.bytes:=X31 _ (by omega);have h:=Lib.run_append_grow_zeros w 25 3 Q 71 i0 _ .i64 .i64 Xb5 Xc0 hi0 hz0 (some ⟨b,off,none⟩) i c (H.take (i*i0.size)) a1 (n+1-i) (by omega) (by omega) (by omega) (by omega) (by omega) (by rw[aa];exact growslice_fits a7 ae);rw[aa] at h;rw[ai];exact h
 clear hz0;generalize z.cells=zc at P hzs⊢;obtain⟨G,hG⟩ :∃G,G=grownCap w (n+1) c 71:=⟨_,rfl⟩;obtain⟨F,U⟩ :∃F:Array A,F=(H.take (i*i0.size)).toArray++Xao zc (n+1-i)++Xao zc (G-(n+1)):=⟨_,rfl⟩;rw[<- hG] at P⊢;rw[<- U] at P⊢;have e4:(n+1-i)*i0.size=n*i0.size+i0.size-i*i0.size:=by rw[Nat.sub_mul,e2]
 have ax:n*i0.size+i0.size<=F.size:=by
  have aj :∀q,(Xao zc q).size=q*i0.size:=λq=>by simp[Xao,hzs]
  rw[U,Array.size_append,Array.size_append,aj,aj,List.size_toArray,X18,af,Xcw ah,e4];omega
 obtain⟨Y,K⟩ :∃Y,Y=w.drew.alloc (.cells F 71):=⟨_,rfl⟩;rw[<- K] at P;have hN :∀j,j<n*i0.size+i0.size->(Y.cell? ⟨w.heap.size,j,none⟩).isSome=true:=λj J=>by rw[K,World.cell?_alloc_at (w:=w.drew) F _ w.heap.size j rfl,Array.getElem?_eq_getElem (by omega)];rfl
 have ak :∀j,Y.frozen? ⟨w.heap.size,j,none⟩=false:=λj=>by rw[K];exact World.frozen?_alloc_at (w:=w.drew) F _ w.heap.size j rfl
 have ay :∀j v,w.cell? ⟨b,j,none⟩=some v->Y.cell? ⟨b,j,none⟩=some v:=λj v h=>by rw[K,World.cell?_alloc_past (w:=w.drew) _ b j aq];exact h
 have az :∀j v,w.cell? ⟨Z,j,none⟩=some v->Y.cell? ⟨Z,j,none⟩=some v:=λj v h=>by rw[K,World.cell?_alloc_past (w:=w.drew) _ Z j ar];exact h
 have al :∀(W:B),(∀x,W.cell? x=Y.cell? x)->(∀x,W.frozen? x=Y.frozen? x)->∀Q dc,(Builtin.copy_ #[25,25] Q #[.slice (some ⟨w.heap.size,i*i0.size,none⟩) (n+1-i) dc,.slice (some ⟨Z,vo,none⟩) 1 vc]).run Xa9 W=.ok (goInt ((1:Nat):Int)) (W.setCells w.heap.size (i*i0.size) M):=λW V ab Q dc=>
  OR W _ _ Q 71 i0.size 1 w.heap.size (i*i0.size) (n+1-i) dc ⟨Z,vo,none⟩ 1 vc M Xb5 w8 (by simp only[Nat.min_def];split<;>omega) (by omega)
   (λj v J=>by rw[Xeg,V];exact az _ v (ag j v J))
   (λj J=>by rw[V];exact hN _ (by omega)) (λj J=>by rw[ab];exact ak _) ao
 have bo:n+1<=G:=by rw[hG];exact grownCap_ge w _ _ _
 have bh:G<=9223372036854775807:=by have:=grownCap_le_maxLen w (n+1) c 71 (by unfold Xb3;omega);rw[<- hG] at this;unfold Xb3 at this;omega
 have bp:¬ (G=i):=by omega
 have bi:¬ (G=i+1):=by omega
 have bq:¬ (c=i):=by omega
 have b0:b≠w.heap.size:=by omega
 have ba:(H.drop (i*i0.size)).length=(n-i)*i0.size:=by rw[X17,af,e3]
 have a6 :∀(W:B),(∀x,W.cell? x=(Y.setCells w.heap.size (i*i0.size) M).cell? x)->(∀x,W.frozen? x=(Y.setCells w.heap.size (i*i0.size) M).frozen? x)->∀Q dc sc,(Builtin.copy_ #[25,25] Q #[.slice (some ⟨w.heap.size,i*i0.size+i0.size,none⟩) (n-i) dc,.slice (some ⟨b,off+i*i0.size,none⟩) (n-i) sc]).run Xa9 W=.ok (goInt ((n-i:Nat):Int)) (W.setCells w.heap.size (i*i0.size+i0.size) (H.drop (i*i0.size))):=λW V ab Q dc sc=>
  OR W _ _ Q 71 i0.size (n-i) w.heap.size (i*i0.size+i0.size) (n-i) dc ⟨b,off+i*i0.size,none⟩ (n-i) sc (H.drop (i*i0.size)) Xb5 w8 (by simp only[Nat.min_def];split<;>omega) ba
   (λj v J=>by
    rw[Xeg,V,Xbc _ _ _ _ _ (λh _=>absurd h b0),Xal]
    exact ay _ v (a8 (i*i0.size+j) v (by rwa [Xeu] at J)))
   (λj J=>by rw[V];exact isSome_setCells _ _ _ _ (λt ht=>hN _ (by omega)) _ (hN _ (by omega)))
   (λj J=>by rw[ab,World.frozen?_setCells];exact ak _) (λv hv=>an v (Xdd hv))
 subst K;have bb :∀x,((w.alloc (.cells F 71)).drew).cell? x=(w.drew.alloc (.cells F 71)).cell? x:=λx=>rfl;have bc :∀x,((w.alloc (.cells F 71)).drew).frozen? x=(w.drew.alloc (.cells F 71)).frozen? x:=λx=>rfl;have bd :∀x,(((w.alloc (.cells F 71)).drew.setCells w.heap.size (i*i0.size) M).drew).cell? x=((w.drew.alloc (.cells F 71)).setCells w.heap.size (i*i0.size) M).cell? x:=λx=>rfl;have be :∀x,(((w.alloc (.cells F 71)).drew.setCells w.heap.size (i*i0.size) M).drew).frozen? x=((w.drew.alloc (.cells F 71)).setCells w.heap.size (i*i0.size) M).frozen? x:=λx=>rfl;have br:Xdt.wrap ((i:Int)+1)=(i:Int)+1:=by rw[IntKind.wrap_i64];omega
 have bu:(0:Int)<=(i:Int)+1:=by omega
 have bw:i<=n:=by omega
 have bx:((i:Int)+1).toNat=i+1:=by omega
 have au:(i:Int)<=(n:Int):=by omega
 clear ai aa a1 U hG ax
 go_enter Tryz.func55,Tryz.ntmps55
 go_wp2_with (first
  | (at_builtin;refine Lib.wpList_append_run _ rfl _ _ _ _ rfl _ _ rfl rfl _ _ (P _) ?_)
  | (at_builtin;refine wpList_copy_runI _ rfl _ _ 25 25 rfl _ _ rfl rfl (al _ bb bc _ _) ?_)
  | (at_builtin;refine wpList_copy_runI _ rfl _ _ 25 25 rfl _ _ rfl rfl (a6 _ (λ_=>rfl) (λ_=>rfl) _ _ _) ?_))
 go_region_law_o (refine step_copy_runI rfl _ _ 25 25 rfl (.slice (some ⟨w.heap.size,i*i0.size+i0.size,none⟩) (n-i) (G-(i+1))) (.slice (some ⟨b,off+i*i0.size,none⟩) (n-i) (c-i)) (by simp[Act.eval,Act.put]) (by simp[Act.eval,Act.put]) (a6 _ bd be 3 (G-(i+1)) (c-i)) ?_)
 go_wp2
 go_ret
 exact⟨rfl,rfl⟩
end
section
variable (i0:TypeInfo) (z:A) (hi0:Tryz.prog.info? 71=some i0) (hz0:i0.zero=some z) (hzs:z.cells.size=i0.size)
include hi0 hz0 hzs
theorem zy {wl:WL}{es:I D}{x:D}{i:Nat}(U:i<=es.length)(hb:(es.length+1)*i0.bytes<=140737488355328)(hn:es.length+1<=140737488355328) : Ao wl Xa9 55 [.own 0 es.length,.d (D.i i),.own 1 1] [.row 71 i0.size es .no,.row 71 i0.size [x] .no] (.own 0 (es.length+1)) [.row 71 i0.size (xe es i x) .no,.row 71 i0.size [x] .no]:=by
 refine⟨X8 Tryz.func55 (by kernel_rfl) (by kernel_rfl),λw S φ gb hg a1 hs hr be m=>?_⟩;have r0:=(hr 0 (by simp)).1;have r1:=(hr 1 (by simp)).1;have r2:=(hr 2 (by simp)).1;simp only[Xaz,List.getElem_cons_succ] at r0 r1 r2;have hv:=Wy hs rfl rfl rfl;generalize a1.getD 0 Xck=v0 at r0 hv;generalize a1.getD 1 Xck=v1 at r1 hv;generalize a1.getD 2 Xck=v2 at r2 hv;obtain rfl:=r1.int;subst hv;have ap:vi [OB.row 71 i0.size es .no,.row 71 i0.size [x] .no] 0=some (.row 71 i0.size es .no):=rfl;have bf:vi [OB.row 71 i0.size es .no,.row 71 i0.size [x] .no] 1=some (.row 71 i0.size [x] .no):=rfl;obtain⟨hk,s1,s2,s3⟩:=U3 m ap r0;obtain⟨_,t1,t2,t3⟩:=U3 m bf r2;rcases t3 with ⟨_,hx,_⟩|⟨Z,H,aq,g,y1,y2,y3,y4,y5,y6,y7,y8,y9⟩
 ·cases hx
 have ar :∀j,j<i0.size->aq[H.2+j]?=some (g 0 j):=λj J=>by have:=y7 0 j (by simp) J;rwa [Nat.zero_mul,Xbk] at this
 obtain rfl:v2=.slice (some ⟨Z,H.2,none⟩) 1 H.1:=y2;have Y:=Zd x U;have q1 :∀q (K:q<(xe es i x).length),(xe es i x)[q].cells.length=i0.size:=λq K=>by
  have bg:q<es.length+1:=by rw[<- Y];exact K
  rw[Uk U q K];split
  ·exact s1 _ _
  split
  ·exact t1 0 (by simp)
  exact s1 _ _
 have q2 :∀q (K:q<(xe es i x).length) j (J:j<(xe es i x)[q].cells.length),(xe es i x)[q].cells[j].isAgg=false:=λq K=>by
  rw[Uk U q K];split
  ·exact s2 _ _
  split
  ·exact t2 0 (by simp)
  exact s2 _ _
 have q3 :∀(f:Nat->Nat->A),(∀i (U:i<es.length) j (J:j<es[i].cells.length),vm S w es[i].cells[j] (f i j))->∀q (K:q<(xe es i x).length) j (J:j<(xe es i x)[q].cells.length),vm S w (xe es i x)[q].cells[j] (Vx f g i q j):=λf hf q K=>by
  have bg:q<es.length+1:=by rw[<- Y];exact K
  rw[Uk U q K];unfold Vx;by_cases h1:q<i
  ·rw[dif_pos h1];intro j J;rw[Wr h1];exact hf _ _ j J
  rw[dif_neg h1];by_cases h2:q=i
  ·rw[dif_pos h2];intro j J;rw[Wm h1,Wr h2];exact y8 0 (by simp) j J
  rw[dif_neg h2];intro j J;rw[Wm h1,Wm h2];exact hf _ _ j J
 have au:iA (vi [OB.row 71 i0.size (xe es i x) .no,.row 71 i0.size [x] .no]) (.own 0 (es.length+1)):=λr hr=>by simp only[AV.refs,X14] at hr;subst hr;simp[vi]
 have ax:vd (vi [OB.row 71 i0.size es .no,.row 71 i0.size [x] .no]) 0 (some (.row 71 i0.size (xe es i x) .no))=vi [OB.row 71 i0.size (xe es i x) .no,.row 71 i0.size [x] .no]:=by
  funext q;match q with
  | 0=>simp[vi,vd]
  | q+1=>simp[vi,vd]
 have done :∀(w':B) (b:Nat) (c:Rp) (aj:Array A) (f:Nat->Nat->A),(∀i (U:i<es.length) j (J:j<es[i].cells.length),vm S w es[i].cells[j] (f i j))->(φ 0=some (b,c)\/w.heap.size<=b)->w'.heap[b]?=some (.cells aj 71 (0,0))->es.length+1<=c.1->c.1<=Xb3->c.2+c.1*i0.size<=aj.size->
   (∀k,k<w.heap.size->(∀c,φ 0≠some (k,c))->w'.heap[k]?=w.heap[k]?)->w.heap.size<=w'.heap.size->(w'.os=w.os/\w'.output=w.output/\w'.tape=w.tape/\w.drawn<=w'.drawn)->
   (∀q j,q<es.length+1->j<i0.size->cellAt w' b (c.2+(q*i0.size+j))=some (Vx f g i q j))->
   ∃v,Ending.returned (Value.slice (some ⟨b,c.2,none⟩) (es.length+1) c.1)=Ending.returned v/\∃S' φ',Mem ⟨w,S,KG φ 2,wl,gb,hg⟩ w' S' φ' (vi [OB.row 71 i0.size (xe es i x) .no,.row 71 i0.size [x] .no])/\Kept w S φ (vi [OB.row 71 i0.size es .no,.row 71 i0.size [x] .no]) w' S' φ' (vi [OB.row 71 i0.size (xe es i x) .no,.row 71 i0.size [x] .no])/\gT S' w' φ' (vi [OB.row 71 i0.size (xe es i x) .no,.row 71 i0.size [x] .no]) (.own 0 (es.length+1)) v/\iA (vi [OB.row 71 i0.size (xe es i x) .no,.row 71 i0.size [x] .no]) (.own 0 (es.length+1)):=by
  intro w' b c aj f hf ay hc hl hm ag hw w8 bh M
  obtain⟨m',k'⟩:=Mem.FJ m ap (es':=xe es i x) ay (by rw[Y];omega) hc (by rw[Y];exact hl) hm ag hw w8 bh q1 q2 (Vx f g i) (λq j K J=>by
   have:=M q j (by rw[<- Y];exact K) J
   rwa [A3 hc] at this) (q3 f hf)
  rw[ax] at m' k';refine⟨_,rfl,S,_,m',k',.own 0 (es.length+1) _ (es.length+1) c.1 _ rfl rfl (λe' bk es' f' hx=>?_) (λcs hx=>by simp[vi] at hx),au⟩;simp only[vi,List.getElem?_cons_zero,X24,OB.row.injEq] at hx;obtain⟨_,_,rfl,_⟩:=hx;exact⟨by rw[Y];exact Xam _,λ_=>.inr ⟨b,c,gM _ _ _,rfl⟩⟩
 rcases s3 with ⟨z1,z2,a,z3⟩|⟨b,F,vs,f,x1,x2,x3,x4,x5,x6,x7,x8,x9⟩
 ·
  subst z2 z3;obtain rfl:i=0:=by simpa using U
  have a6:=grownCap_ge w 1 0 71;have a8:=grownCap_le_maxLen w 1 0 71 (by unfold Xb3;omega)
  refine (TP i0 z hi0 hz0 a 0 0 Z H.2 H.1 [] (flat 1 i0.size g) w (Xam _) (by omega) (by simpa using hb) (by omega) (by simp) (by rw[oE,Nat.one_mul]) (λ_=>rfl) (λ_ _ j v h=>by simp at h) (λj v h=>Ia (n:=1) (f:=g) (g:=λt=>w.cell? ⟨Z,H.2+t,none⟩) (λi j U J=>by
    obtain rfl:i=0:=by omega
    have:=ar j J;rw[Nat.zero_mul,Xbk]
    exact (A3 y3 _).trans this) j v h)
   (Qd (es:=[x]) rfl t1 t2 y8 hk)).mono λe w' ⟨he,P⟩=>?_
  subst he P;refine done _ w.heap.size (grownCap w 1 0 71,0) _ (λ_ _=>Xck) (λi U=>by simp at U) (.inr (Xam _)) (heap_alloc_new w.drew _) a6 a8 ?_ (λk hk _=>Dn w.drew _ hk) (by simp) ⟨rfl,rfl,rfl,Nat.le_succ _⟩ ?_
  ·simp only[Array.size_append,List.size_toArray,Xay,oE,size_zeroCells,hzs,<- X32];exact Nat.le_of_eq (by rw[Xbk];congr 1;show _=1+(grownCap w 1 0 71-1);omega)
  intro q j K J;refine (A3 (b:=w.heap.size) (heap_alloc_new w.drew _) _).trans ?_;have:=XB (n:=0) (f:=λ_ _=>Xck) (g:=g) (Xao z.cells (grownCap w (0+1) 0 71-(0+1))) K J;rw[show flat 0 i0.size (λ_ _=>Xck)=[] by simp[flat]] at this;rw[<- this];congr 1;exact Xbk _
 ·
  subst x2;have bl:=xq x3;have bm:=xq y3;have bi:Z≠b:=λe=>by have:=m.inj 1 0 Z H F (by simp[vi]) (by simp[vi]) y1 (e▸x1);omega
  have aa:(flat es.length i0.size f).length=es.length*i0.size:=oE _ _ _;have ab:(flat 1 i0.size g).length=i0.size:=by rw[oE,Nat.one_mul]
  have M :∀t,w.cell? ⟨b,t,none⟩=vs[t]?:=λt=>A3 x3 t;have ak :∀j v,(flat es.length i0.size f)[j]?=some v->w.cell? ⟨b,F.2+j,none⟩=some v:=λj v h=>
   Ia (g:=λt=>w.cell? ⟨b,F.2+t,none⟩) (λi j U J=>(M _).trans (x7 i j U J)) j v h
  have ae :∀j v,(flat 1 i0.size g)[j]?=some v->w.cell? ⟨Z,H.2+j,none⟩=some v:=λj v h=>
   Ia (n:=1) (f:=g) (g:=λt=>w.cell? ⟨Z,H.2+t,none⟩) (λi j U J=>by
    obtain rfl:i=0:=by omega
    rw[Nat.zero_mul,Xbk]
    exact (A3 y3 _).trans (ar j J)) j v h
  have o1:=Qd (n:=es.length) rfl s1 s2 x8 hk;have o2:=Qd (n:=1) (es:=[x]) rfl t1 t2 y8 hk;have az :∀t,w.frozen? ⟨b,t,none⟩=false:=λt=>by simp[World.frozen?,x3]
  have b0 :∀t,w.frozen? ⟨Z,t,none⟩=false:=λt=>by simp[World.frozen?,y3]
  have ah:F.1<=9223372036854775807:=by have:=x5;unfold Xb3 at this;omega
  by_cases Q:es.length+1<=F.1
  ·have ag:(es.length+1)*i0.size<=F.1*i0.size:=X31 _ Q;have e2:(es.length+1)*i0.size=es.length*i0.size+i0.size:=Xe1 _ _;have al :∀j,j<es.length*i0.size+i0.size->(w.cell? ⟨b,F.2+j,none⟩).isSome=true:=λj J=>by rw[M,Array.getElem?_eq_getElem (by omega)];rfl
   have h0 :∀q j,q<i->j<i0.size->w.cell? ⟨b,F.2+(q*i0.size+j),none⟩=some (f q j):=λq j K J=>(M _).trans (x7 q j (by omega) J);have fin :∀(W:B) (h:W=w\/W=w.drew),∃ai,((W.setCells b (F.2+(i*i0.size+i0.size)) ((flat es.length i0.size f).drop (i*i0.size))).setCells b (F.2+i*i0.size) (flat 1 i0.size g)).heap[b]?=some (.cells ai 71 (0,0))/\ai.size=vs.size/\
     (∀k,k≠b->((W.setCells b (F.2+(i*i0.size+i0.size)) ((flat es.length i0.size f).drop (i*i0.size))).setCells b (F.2+i*i0.size) (flat 1 i0.size g)).heap[k]?=w.heap[k]?)/\((W.setCells b (F.2+(i*i0.size+i0.size)) ((flat es.length i0.size f).drop (i*i0.size))).setCells b (F.2+i*i0.size) (flat 1 i0.size g)).heap.size=w.heap.size/\
     (((W.setCells b (F.2+(i*i0.size+i0.size)) ((flat es.length i0.size f).drop (i*i0.size))).setCells b (F.2+i*i0.size) (flat 1 i0.size g)).os=w.os/\((W.setCells b (F.2+(i*i0.size+i0.size)) ((flat es.length i0.size f).drop (i*i0.size))).setCells b (F.2+i*i0.size) (flat 1 i0.size g)).output=w.output/\ ((W.setCells b (F.2+(i*i0.size+i0.size)) ((flat es.length i0.size f).drop (i*i0.size))).setCells b (F.2+i*i0.size) (flat 1 i0.size g)).tape=w.tape/\w.drawn<=((W.setCells b (F.2+(i*i0.size+i0.size)) ((flat es.length i0.size f).drop (i*i0.size))).setCells b (F.2+i*i0.size) (flat 1 i0.size g)).drawn)/\
     ∀q j,q<es.length+1->j<i0.size->cellAt ((W.setCells b (F.2+(i*i0.size+i0.size)) ((flat es.length i0.size f).drop (i*i0.size))).setCells b (F.2+i*i0.size) (flat 1 i0.size g)) b (F.2+(q*i0.size+j))=some (Vx f g i q j):=by
    intro W hW;have an:W.heap=w.heap:=by rcases hW with rfl|rfl<;>rfl
    have ba :∀a,W.cell? a=w.cell? a:=by rcases hW with rfl|rfl<;>exact λ_=>rfl
    have af:w.drawn<=W.drawn/\W.os=w.os/\W.output=w.output/\W.tape=w.tape:=by
     rcases hW with rfl|rfl
     ·exact⟨Xam _,rfl,rfl,rfl⟩
     exact⟨Nat.le_succ _,rfl,rfl,rfl⟩
    obtain⟨c1,p1,p2,p3,p4,p5,p6,p7,p8⟩:=E8 b ((flat es.length i0.size f).drop (i*i0.size)) (F.2+(i*i0.size+i0.size)) W (by rw[an];exact x3);obtain⟨c2,u1,u2,u3,u4,u5,u6,u7,u8⟩:=E8 b (flat 1 i0.size g) (F.2+i*i0.size) _ p1;refine⟨c2,u1,by omega,λk hk=>by rw[u3 k hk,p3 k hk,an],by rw[u4,p4,an],⟨by rw[u5,p5,af.2.1],by rw[u6,p6,af.2.2.1],by rw[u7,p7,af.2.2.2],by rw[u8,p8];exact af.1⟩,?_⟩;exact (Xc U W (λt ht=>by rw[ba];exact al t ht) (λq j K J=>by rw[ba];exact h0 q j K J)).1
   by_cases ao:i<es.length
   ·refine (jK i0.size (λw=>by first|(simp[sizeOf,Xer,hi0];done)|(simp[sizeOf,Xer];simpa using Xa4 (Option.map TypeInfo.size) hi0)) (by rw[hi0];rfl) hk b F.2 es.length F.1 i Z H.2 H.1 _ _ w ao Q ah bi aa ab ak (λj J=>al j (by omega)) (λj _=>az _) ae o1 o2 71 71 aq.size vs.size (by simp[World.shape?,y3]) (by simp[World.shape?,x3]) (by have:=Nat.mul_pos (show 0<F.1 by omega) hk;omega) (b0 _) (b0 _)).mono λe w' ⟨he,P⟩=>?_;subst he P;obtain⟨c2,u1,u2,u3,u4,u5,u6⟩:=fin w.drew (.inr rfl);exact done _ b F c2 f x8 (.inl x1) u1 Q x5 (by rw[u2];exact x6) (λk _ hk=>u3 k λe=>hk F (by rw[e];exact x1)) (by rw[u4];exact Xam _) u5 u6
   obtain rfl:i=es.length:=by omega
   have hd:(flat es.length i0.size f).drop (es.length*i0.size)=[]:=List.drop_eq_nil_of_le (by rw[aa];exact Xam _);refine (Ze i0 z hi0 hz0 b F.2 es.length F.1 Z H.2 H.1 _ w Q ah ab (λj J=>by rw[Xal];exact al _ (by omega)) (λj _=>az _) ae o2).mono λe w' ⟨he,P⟩=>?_;subst he P;obtain⟨c2,u1,u2,u3,u4,u5,u6⟩:=fin w (.inl rfl);rw[hd] at u1 u3 u4 u5 u6;exact done _ b F c2 f x8 (.inl x1) u1 Q x5 (by rw[u2];exact x6) (λk _ hk=>u3 k λe=>hk F (by rw[e];exact x1)) (Nat.le_of_eq u4.symm) u5 u6
  have a6:=grownCap_ge w (es.length+1) F.1 71;have a8:=grownCap_le_maxLen w (es.length+1) F.1 71 (by unfold Xb3;omega);by_cases ao:i<es.length
  ·refine (kg i0 z hi0 hz0 hzs b F.2 es.length F.1 i Z H.2 H.1 _ _ w ao x4 (by omega) hb (by omega) aa ab hk ak ae o1 o2).mono λe w' ⟨he,P⟩=>?_;subst he;have bb:i*i0.size<=es.length*i0.size:=X31 _ U;obtain⟨V,a7⟩ :∃V:Array A,V=((flat es.length i0.size f).take (i*i0.size)).toArray++Xao z.cells (es.length+1-i)++Xao z.cells (grownCap w (es.length+1) F.1 71-(es.length+1)):=⟨_,rfl⟩;rw[<- a7,drew_setCells] at P;have bc:V.size=grownCap w (es.length+1) F.1 71*i0.size:=by rw[a7];simp only[Array.size_append,List.size_toArray,X18,oE,size_zeroCells,hzs,Xcw bb,<- X32];congr 1;omega
   have bn:es.length*i0.size+i0.size<=V.size:=by rw[bc,<- Xe1];exact X31 _ a6
   have hW:((w.alloc (.cells V 71)).drew.drew).heap[w.heap.size]?=some (.cells V 71 (0,0)):=heap_alloc_new w _
   have bd:=(Xc (k:=i0.size) (n:=es.length) (b:=w.heap.size) (off:=0) (f:=f) (g:=g) U ((w.alloc (.cells V 71)).drew.drew) (λt ht=>by
    refine (Xa4 Xdy ((A3 hW (0+t)))).trans ?_;rw[Array.getElem?_eq_getElem (by omega)];rfl) (λq j K J=>by
    have bj:=Qe K J;refine (A3 hW _).trans ?_;rw[Xbk,a7,Array.append_assoc,Xco (by simp only[List.size_toArray,X18,oE];omega),List.getElem?_toArray,List.getElem?_take_of_lt bj]
    exact flat_get f (by omega) J)).2
   simp only[Xbk] at bd;obtain⟨c1,p1,p2,p3,p4,p5,p6,p7,p8⟩:=E8 w.heap.size (flat 1 i0.size g) (i*i0.size) _ hW;obtain⟨c2,u1,u2,u3,u4,u5,u6,u7,u8⟩:=E8 w.heap.size ((flat es.length i0.size f).drop (i*i0.size)) (i*i0.size+i0.size) _ p1;rw[<- P] at u1 u3 u4 u5 u6 u7 u8
   refine done w' w.heap.size (grownCap w (es.length+1) F.1 71,0) c2 f x8 (.inr (Xam _)) u1 a6 a8 (by rw[u2,p2,bc];exact Nat.le_of_eq (Xbk _)) (λk hk _=>by
    rw[u3 k (by omega),p3 k (by omega)]
    exact Dn w _ hk) (by rw[u4,p4];simp) ⟨by rw[u5,p5];rfl,by rw[u6,p6];rfl,by rw[u7,p7];rfl,by rw[u8,p8];exact Nat.le_add_right _ 2⟩ ?_
   intro q j K J;rw[P];refine Xev ?_ (bd q j K J);show cellAt _ _ _=cellAt _ _ _;congr 1;exact Xbk _
  obtain rfl:i=es.length:=by omega
  refine (TP i0 z hi0 hz0 (some ⟨b,F.2,none⟩) es.length F.1 Z H.2 H.1 _ _ w x4 (by omega) hb (by omega) aa ab (λh=>by cases h) (λa ha j v h=>by
   cases ha;rw[Addr.wB]
   exact ak j v h) ae o2).mono λe w' ⟨he,P⟩=>?_
  subst he P;refine done _ w.heap.size (grownCap w (es.length+1) F.1 71,0) _ f x8 (.inr (Xam _)) (heap_alloc_new w.drew _) a6 a8 ?_ (λk hk _=>Dn w.drew _ hk) (by simp) ⟨rfl,rfl,rfl,Nat.le_succ _⟩ ?_
  ·simp only[Array.size_append,List.size_toArray,X11,oE,size_zeroCells,hzs,<- X32];exact Nat.le_of_eq (by rw[Xbk];congr 1;show _=es.length+1+(grownCap w (es.length+1) F.1 71-(es.length+1));omega)
  intro q j K J;refine (A3 (b:=w.heap.size) (heap_alloc_new w.drew _) _).trans ?_;rw[<- XB (Xao z.cells (grownCap w (es.length+1) F.1 71-(es.length+1))) K J];congr 1;exact Xbk _
end
end I55
namespace I52
section
variable (i0:TypeInfo) (z:A) (hi0:Tryz.prog.info? 71=some i0) (hz0:i0.zero=some z) (hzs:z.cells.size=i0.size)
include hi0 hz0 hzs
theorem pB (hk:0<i0.size)(h1z :∀v∈(Xao z.cells 1).toList,v.oneCell'=true)(b off n c i:Nat)(K:I Value)(w:B)(hi:i<n)(ap:n<=c)(aj:c<=9223372036854775807) (aa:K.length=n*i0.size) (Y :∀j v,K[j]?=some v->w.cell? ⟨b,off+j,none⟩=some v) (Z :∀t,w.frozen? ⟨b,t,none⟩=false) (ab :∀v∈K,v.oneCell'=true) : Calls Xa9 52 #[.slice (some ⟨b,off,none⟩) n c,.int .i64 i,.int .i64 ((i:Int)+1)] w λe w'=> e=.returned (.slice (some ⟨b,off,none⟩) (n-1) c)/\w'=(w.drew.setCells b (off+i*i0.size) (K.drop (i*i0.size+i0.size))).setCells b (off+(n-1)*i0.size) (Xao z.cells 1).toList:=by
 have aq:=Xa7 Xb5;have u9:=Xa7 Tryz.underlying71;have u3:=Xa7 Xc0;have u4:=Xa7 Xc8;have zE :∀w,(Go.sizeOf 71).run Xa9 w=.ok i0.size w:=λw=>by first|(simp[sizeOf,Xer,hi0];done)|(simp[sizeOf,Xer];simpa using Xa4 (Option.map TypeInfo.size) hi0)
 have ae:Xa9.follows .mixedOrders=true:=by kernel_rfl
 have a1 :∀w,(zeroValue 71).run Xa9 w=.ok z w:=λw=>by simp[zeroValue,Xer,hi0,hz0]
 obtain⟨p,rfl⟩ :∃p,n=p+1:=⟨n-1,by omega⟩;have e1:(i+1)*i0.size=i*i0.size+i0.size:=Xe1 i _;have e2:(p+1)*i0.size=p*i0.size+i0.size:=Xe1 p _;have e3:(p-i)*i0.size=p*i0.size-i*i0.size:=Nat.sub_mul p i _;have ak:i*i0.size<=p*i0.size:=X31 _ (by omega);have a6:(K.drop (i*i0.size+i0.size)).length=(p-i)*i0.size:=by rw[X17,aa,e2,e3];omega
 have F :∀t,t<(p+1)*i0.size->(w.cell? ⟨b,off+t,none⟩).isSome=true:=λt ht=>by rw[Y t _ (X15 (by omega))];rfl
 have ar:¬ ((i:Int)=(i:Int)+1):=by omega
 have af:(Xao z.cells 1).toList.length=i0.size:=by rw[Xan];simp[Xao,hzs]
 have M :∀(W:B),(∀t,t<(p+1)*i0.size->(W.cell? ⟨b,off+t,none⟩).isSome=true)->(∀t,W.frozen? ⟨b,t,none⟩=false)->∀U cc,(Builtin.clear_ #[25] U #[.slice (some ⟨b,off+p*i0.size,none⟩) 1 cc]).run Xa9 W=.ok (.tuple #[]) (W.setCells b (off+p*i0.size) (Xao z.cells 1).toList):=λW h1 h2 U cc=>
  dJ W 25 71 U z Xb5 a1 b (off+p*i0.size) 1 cc (by omega) h1z (λj P=>by rw[Xal];exact h1 _ (by rw[Nat.one_mul,hzs] at P;omega)) (λj _=>h2 _)
 have au:i<=p+1:=by omega
 have ax:(0:Int)<=(i:Int)+1:=by omega
 have ay:((i:Int)+1).toNat=i+1:=by omega
 have az:(i:Int)+1<=((p+1:Nat):Int):=by omega
 have b0:(i:Int)<=(i:Int)+1:=by omega
 have ba:¬ (c=i):=by omega
 have bb:¬ (c=p):=by omega
 have ag:i+(p-i)=p:=by omega
 obtain⟨V,H⟩ :∃V,V=w.drew.setCells b (off+i*i0.size) (K.drop (i*i0.size+i0.size)):=⟨_,rfl⟩;have ah :∀t,t<(p+1)*i0.size->(V.cell? ⟨b,off+t,none⟩).isSome=true:=λt ht=>by rw[H];exact isSome_setCells b _ _ _ (λj P=>by rw[Xal];exact F _ (by omega)) _ (F t ht)
 have ai :∀t,V.frozen? ⟨b,t,none⟩=false:=λt=>by rw[H,World.frozen?_setCells];exact Z t
 show Calls _ _ _ _ λe w'=>e=.returned (.slice (some ⟨b,off,none⟩) p c)/\w'=(w.drew.setCells b (off+i*i0.size) (K.drop (i*i0.size+i0.size))).setCells b (off+p*i0.size) (Xao z.cells 1).toList;obtain⟨A,hA,a7⟩ :∃A:Go.Addr,(if c=i+1 then some (⟨b,off,none⟩:Go.Addr) else some ⟨b,off+(i*i0.size+i0.size),none⟩)=some A/\∀j v,(K.drop (i*i0.size+i0.size))[j]?=some v->w.drew.cell? (A.add j)=some v:=by
  by_cases J:c=i+1
  ·refine⟨_,Wr J,λj v P=>?_⟩;have h0:(K.drop (i*i0.size+i0.size)).length=0:=by rw[a6,show p-i=0 by omega,Nat.zero_mul]
   rw[Xcm.1 h0] at P;simp at P
  refine⟨_,Wm J,λj v P=>?_⟩;rw[Xeg,Xal];exact Y _ v (by rwa [Xeu] at P)
 have a8 :∀U,(Xcg #[25,25] U #[.slice (some ⟨b,off,none⟩) i c,.slice (some A) (p-i) (c-(i+1))]).run Xa9 w.drew=.ok (.slice (some ⟨b,off,none⟩) p c) V:=λU=>by have:=run_append_room_src w.drew 25 25 U 71 i0 Xb5 hi0 b off i c _ (p-i) _ (Src.ofSlice w.drew Xb5 A (p-i) (c-(i+1)) _ a6 a7 (λv hv=>ab v (Xdd hv))) (by omega) (λj P=>by rw[Xal];exact F _ (by omega)) (λj _=>Z _);rw[ag,<- H] at this;exact this
 have al:p+1-(i+1)=p-i:=by omega
 have bc:i<=c:=by omega
 have an:i<=p:=by omega
 have bd:p<=c:=by omega
 have ao:p+1<=c:=by omega
 have Q:=M V ah ai;rw[<- H];clear H a7 M af h1z a1;generalize (Xao z.cells 1).toList=ZL at Q⊢;clear hz0 hzs
 go_enter Tryz.func52,Tryz.ntmps52
 go_wp2
 go_region_law_o (refine RU rfl _ _ 25 25 rfl (.slice (some ⟨b,off,none⟩) i c) (.slice (some A) (p-i) (c-(i+1))) (by simp[Act.eval,Act.put]) (by simp[Act.eval,Act.put,hA]) (a8 _) ?_)
 go_wp2_with (simp only[Q])
 go_ret
 exact⟨rfl,rfl⟩
end
section
variable (i0:TypeInfo) (z:A) (hi0:Tryz.prog.info? 71=some i0) (hz0:i0.zero=some z) (hzs:z.cells.size=i0.size) (h1z :∀v∈(Builtin.zeroCells z.cells 1).toList,v.oneCell'=true)
include hi0 hz0 hzs h1z
theorem zx {wl:WL}{es:I D}{i:Nat}(U:i<es.length) : Ao wl Xa9 52 [.own 0 es.length,.d (D.i i),.d (D.i ((i:Int)+1))] [.row 71 i0.size es .no] (.own 1 (es.length-1)) [.gone,.row 71 i0.size (SI es i) .no]:=by
 refine⟨X8 Tryz.func52 (by kernel_rfl) (by kernel_rfl),λw S φ gb hg M hs hr aa m=>?_⟩;have r0:=(hr 0 (by simp)).1;have r1:=(hr 1 (by simp)).1;have r2:=(hr 2 (by simp)).1;simp only[Xaz,List.getElem_cons_succ] at r0 r1 r2;have hv:=Wy hs rfl rfl rfl;generalize M.getD 0 Xck=v0 at r0 hv;generalize M.getD 1 Xck=v1 at r1 hv;generalize M.getD 2 Xck=v2 at r2 hv;obtain rfl:=r1.int;obtain rfl:=r2.int;subst hv;have a1:vi [OB.row 71 i0.size es .no] 0=some (.row 71 i0.size es .no):=rfl;obtain⟨hk,s1,s2,s3⟩:=U3 m a1 r0;rcases s3 with ⟨_,z2,_⟩|⟨b,F,vs,f,x1,x2,x3,x4,x5,x6,x7,x8,x9⟩
 ·subst z2;simp at U
 subst x2;obtain⟨n,hn⟩ :∃n,es.length=n+1:=⟨es.length-1,by omega⟩;have V:(Xao z.cells 1).toList.length=i0.size:=by rw[Xan];simp[Xao,hzs]
 have H :∀t,w.cell? ⟨b,t,none⟩=vs[t]?:=λt=>A3 x3 t;have ab :∀j v,(flat es.length i0.size f)[j]?=some v->w.cell? ⟨b,F.2+j,none⟩=some v:=λj v h=>
  Ia (g:=λt=>w.cell? ⟨b,F.2+t,none⟩) (λi j U K=>(H _).trans (x7 i j U K)) j v h
 have ae :∀t,w.frozen? ⟨b,t,none⟩=false:=λt=>by simp[World.frozen?,x3]
 have a6:es.length*i0.size<=F.1*i0.size:=X31 _ x4;have e2:(n+1)*i0.size=n*i0.size+i0.size:=Xe1 n _;refine (pB i0 z hi0 hz0 hzs hk h1z b F.2 es.length F.1 i _ w U x4 (by have:=x5;unfold Xb3 at this;omega) (oE _ _ _) ab ae (Qd rfl s1 s2 x8 hk)).mono λe w' ⟨he,Y⟩=>?_;subst he;rw[hn] at Y a6 x7
 have Z:=iM (f:=f) (b:=b) (off:=F.2) V (show i<=n by omega) w.drew (λt ht=>by
  refine (Xa4 Xdy (H (F.2+t))).trans ?_
  rw[Array.getElem?_eq_getElem (by omega)];rfl) (λq j Q K=>(H _).trans (x7 q j (by omega) K))
 obtain⟨c1,p1,p2,p3,p4,p5,p6,p7,p8⟩:=E8 b ((flat (n+1) i0.size f).drop (i*i0.size+i0.size)) (F.2+i*i0.size) w.drew x3;obtain⟨c2,u1,u2,u3,u4,u5,u6,u7,u8⟩:=E8 b (Xao z.cells 1).toList (F.2+n*i0.size) _ p1;have af:n+1-1=n:=rfl;rw[af] at Y;rw[<- Y] at u1 u3 u4 u5 u6 u7 u8 Z;generalize (Xao z.cells 1).toList=ZL at V h1z Z u2;let J:I D:=SI es i++[.agg (ZL.map .val)];have hd:=Y9 U;have ag:J.length=es.length:=by simp only[J,X11,X22,hd];omega
 have P :∀q (Q:q<J.length),J[q]=if h:q<n then (SI es i)[q]'(by omega) else .agg (ZL.map .val):=λq Q=>by
  simp only[J,Xdk];by_cases h:q<n
  ·rw[dif_pos (by omega),dif_pos h]
  rw[dif_neg (by omega),dif_neg h];simp
 obtain⟨m1,k1⟩:=Mem.zj m a1 x1 x3 ag (λq Q=>by
   rw[P q Q];by_cases h:q<n
   ·rw[dif_pos h,UY U _ _];by_cases h1:q<i
    ·rw[dif_pos h1];exact s1 _ _
    rw[dif_neg h1];exact s1 _ _
   ·rw[dif_neg h];simpa[D.cells] using V) (λq Q=>by
   rw[P q Q];by_cases h:q<n
   ·rw[dif_pos h,UY U _ _];by_cases h1:q<i
    ·rw[dif_pos h1];exact s2 _ _
    rw[dif_neg h1];exact s2 _ _
   rw[dif_neg h];intro j K
   simp[D.cells,D.isAgg]) u1 (by omega) (λk _ a7=>by rw[u3 k a7,p3 k a7];rfl) (by rw[u4,p4];exact Xam _) ⟨by rw[u5,p5];rfl,by rw[u6,p6];rfl,by rw[u7,p7];rfl,by rw[u8,p8];exact Nat.le_succ _⟩
  (oq f ZL n i) (λq j Q K=>by
   have:=Z q j (by omega) K;rwa [show w'.cell? ⟨b,F.2+(q*i0.size+j),none⟩=cellAt w' b (F.2+(q*i0.size+j)) from rfl,A3 u1] at this) (λq Q=>by
   rw[P q Q];unfold oq;by_cases h:q<n
   ·rw[dif_pos h,UY U _ _];by_cases h1:q<i
    ·rw[dif_pos h1];intro j K;rw[Wr h1];exact x8 _ _ j K
    rw[dif_neg h1];intro j K;rw[Wm h1,Wr h];exact x8 _ _ j K
   rw[dif_neg h];intro j K;have a8:j<ZL.length:=by simpa[D.cells] using K
   rw[Wm (by omega),Wm h];simp only[D.cells,Xb2,List.getD,X15 a8,Xb7]
   exact .val _ (h1z _ (Xae a8)))
 obtain⟨m2,k2⟩:=Mem.move m1 0 1 71 i0.size J (SI es i) (gM _ _ _) (by simp[vd,vi]) ⟨_,rfl⟩;have ah:vd (vd (vd (vi [OB.row 71 i0.size es .no]) 0 (some (.row 71 i0.size J .no))) 0 (some .gone)) 1 (some (.row 71 i0.size (SI es i) .no))=vi [.gone,.row 71 i0.size (SI es i) .no]:=by
  funext q;match q with
  | 0=>simp[vd,vi]
  | 1=>simp[vd,vi]
  | q+2=>simp[vd,vi]
 rw[ah] at m2 k2;have ai:es.length-1=n:=by omega
 rw[ai];refine⟨_,rfl,S,_,m2,k1.trans k2,.own 1 n _ n F.1 _ rfl rfl (λe' aj ak f' hx=>?_) (λcs hx=>by simp[vi] at hx),λr hr=>?_⟩
 ·simp only[vi,List.getElem?_cons_succ,List.getElem?_cons_zero,X24,OB.row.injEq] at hx;obtain⟨_,_,rfl,_⟩:=hx;exact⟨by omega,λ_=>.inr ⟨b,F,by rw[gM];exact x1,rfl⟩⟩
 simp only[AV.refs,X14] at hr;subst hr;simp[vi]
end
end I52
theorem js :∃(i0:TypeInfo) (z:A),Xa9.info? 71=some i0/\i0.zero=some z/\i0.size=18/\i0.bytes=208/\z.cells.size=i0.size/\∀v∈(Xao z.cells 1).toList,v.oneCell'=true:=by
 have h:(Xa9.info? 71).map (λi=>(i.size,i.bytes,i.zero.map λz=>(z.cells.size,(Xao z.cells 1).toList.all λv=>v.oneCell')))=some (18,208,some (18,true)):=by kernel_rfl
 cases J:Xa9.info? 71 with
 | none=>rw[J] at h;cases h
 | some i=>
  rw[J] at h;simp only[Xbf,X24,X26] at h;obtain⟨K,M,F⟩:=h;cases H:i.zero with
  | none=>rw[H] at F;cases F
  | some z=>rw[H] at F;simp only[Xbf,X24,X26] at F;exact⟨i,z,rfl,H,K,M,by rw[F.1,K],Xa0.1 F.2⟩
theorem ZK {wl:WL}{X:Type}{f:X->D}{l r:I X}{i:Int}{x:X}(h:bH 208 l i x=some r) : Ao wl Xa9 55 [.own 0 (Xa1 f l).length,.d (D.i i),.own 1 (Xa1 f [x]).length] [.row 71 18 (Xa1 f l) .no,.row 71 18 (Xa1 f [x]) .no] (.own 0 (Xa1 f r).length) [.row 71 18 (Xa1 f r) .no,.row 71 18 (Xa1 f [x]) .no]:=by obtain⟨q,rfl,F,H,J,K,M⟩:=mX h;obtain⟨i0,z,P,Q,U,V,Y,_⟩:=js;have:=I55.zy i0 z P Q Y (wl:=wl) (es:=Xa1 f l) (x:=f x) (i:=q) (by simpa using F) (by rw[X10,V];exact H) (by rw[X10];exact J);rw[U,<- M f,show (Xa1 f l).length+1=(Xa1 f r).length by simp[K]] at this;exact this
theorem Zp {wl:WL}{X:Type}{f:X->D}{l r:I X}{i j:Int}(h:dU l i j=some r) : Ao wl Xa9 52 [.own 0 (Xa1 f l).length,.d (D.i i),.d (D.i j)] [.row 71 18 (Xa1 f l) .no] (.own 1 (Xa1 f r).length) [.gone,.row 71 18 (Xa1 f r) .no]:=by obtain⟨q,rfl,rfl,F,H,J⟩:=kU h;obtain⟨i0,z,K,M,P,V,Q,U⟩:=js;have:=I52.zx i0 z K M Q U (wl:=wl) (es:=Xa1 f l) (i:=q) (by simpa using F);rw[P,<- J f,show (Xa1 f l).length-1=(Xa1 f r).length by simp[H]] at this;exact this
end Go.AX.Q25
end
