/-
  Texts of one proof, packed.
-/
import Derived.Test.YthbbpeeghmpcfaaGreatDoorR3
import Derived.Laws.BytesArg
set_option linter.all false
set_option maxRecDepth 100000
set_option maxHeartbeats 4000000
open List renaming length_map→X1,length_append→X2,mem_singleton→X11,getElem?_eq_getElem→X12,getElem?_eq_some_iff→X13,length_drop→X14,length_take→X15,length_replicate→X17,length_set→X18
open Option.some renaming injEq→X21
open Prod.mk renaming injEq→X23
open Nat renaming eq_of_beq_eq_true→X27,mul_le_mul_right→X28,add_mul→X29
open List renaming range→Xbu
open Go.Builtin renaming zeroCells→Xac,append_→Xc0
open Go renaming run_underlying→Xae,undef→Xck,typeInfo→Xdx,grownCap→Xec,maxLen→Xc7
open Go.Result renaming andThen_ok→Xaw
open Go.Sem renaming run_bind→Xb0,run_pure→Xdd
open Go.Instr renaming sureAddr→Xd2
open Go.ByteArray renaming toList_eq→Xen
section
namespace Go.AX
section
variable {P:Program} {T:TT} {E:Env} {w:B} {S:Sc} {φ:Nat->C (Nat×Rp)} {ob:Nat->C OB}
def Mem.drew (m:Mem E w S φ ob):Mem E w.drew S φ ob/\Kept w S φ ob w.drew S φ ob:=by have F:Kept w S φ ob w.drew S φ ob:=⟨λ_ _ h=>⟨h,rfl⟩,λr _=>.refl φ ob r,λ_ h=>h⟩;exact⟨⟨λr o h=>(m.obj r o h).zV F rfl (λ_ _ _=>⟨rfl,λ_ h=>h⟩) (m.GJ r o h),m.inj,m.GJ,m.sS,m.kS,m.bS,m.nS,m.fr,m.sz,m.ow,⟨m.os.1,m.os.2.1,m.os.2.2.1,m.os.2.2.2.imp_right λh=>Xay h (Nat.le_succ _)⟩⟩,F⟩
structure Mz (S:Sc)(w:World)(sz:Nat)(ys:List D)(v:Value):Prop where
 zx :∀i (hi:i<ys.length),ys[i].cells.length=sz
 na :∀i (hi:i<ys.length) j (hj:j<ys[i].cells.length),ys[i].cells[j].isAgg=false
 v:((∃a c,v=.slice a 0 c)/\ys=[]) \/∃b o cap,∃f:Nat->Nat->Value,v=.slice (some ⟨b,o,none⟩) ys.length cap/\(∀i j,i<ys.length->j<sz->cellAt w b (o+i*sz+j)=some (f i j))/\
  ∀i (hi:i<ys.length) j (hj:j<ys[i].cells.length),zf S w ys[i].cells[j] (f i j)
def Zd {obl:O (C OB)}(m:Mem E w S φ (λr=>obl.getD r none)){y:AV}{v:A}{K:Nat->O D->Prop}(J:kI S w φ (λr=>obl.getD r none) y v)(h:Yo obl y K) : ∃sz ys,K sz ys/\Mz S w sz ys v:=by
 unfold Yo at h;split at h
 ·rename_i sz Q;refine⟨sz,Q,h,?_⟩;cases J with|d _ _ J=>
  cases J with
  | zZ=>exact⟨λi F=>by simp at F,λi F=>by simp at F,.inl ⟨⟨_,_,rfl⟩,rfl⟩⟩
  | Cg _ _ b o M f hl hc zx hS hn hr=>exact⟨zx,hn,.inr ⟨b,o,M,f,rfl,λi j F U=>(hS i j F U).2,hr⟩⟩
 ·rename_i sz;refine⟨sz,[],h,?_⟩;cases J with|d _ _ J=>
  cases J with
  | nil=>exact⟨λi F=>by simp at F,λi F=>by simp at F,.inl ⟨⟨_,_,rfl⟩,rfl⟩⟩
 ·rename_i r n;rw[Ao] at h;obtain⟨o,Z,h⟩:=h;cases o with
  | box=>simp at h
  | map=>simp at h
  | zj=>simp at h
  | gone=>simp at h
  | row e sz Q V=>
   simp only at h;refine⟨sz,Q,h.2,?_⟩;obtain⟨g0,g1,g2,g3⟩:=m.obj r _ Z;cases J with|own _ _ _ k c a0 hv hk h1 hb=>
   obtain⟨_,h2⟩:=h1 e sz Q V Z;rcases h2 h.1 with ⟨a1,a2,_,rfl⟩|⟨b,M,a1,rfl⟩
   ·exact⟨g1,g2,.inl ⟨⟨_,_,rfl⟩,Xag (by omega)⟩⟩
   rcases g3 with ⟨Y,_⟩|⟨b',H,vs,f,Y,f2,f3,f4,f5,f6,f7,f8⟩
   ·rw[Y] at a1;simp at a1
   rw[Y] at a1;simp only[X21,X23] at a1;obtain⟨rfl,rfl⟩:=a1;exact⟨g1,g2,.inr ⟨b',H.2,H.1,f,by rw[h.1],λi j F U=>by rw[BB f2,Xc5];exact f6 i j F U,f7⟩⟩
 exact h.elim
def Kr {obl:O (C OB)}(m:Mem E w S φ (λr=>obl.getD r none)){y:AV}{v:A}{K:Nat->O D->Prop}(hy:kI S w φ (λr=>obl.getD r none) y v)(h:Xk obl y K) : ∃sz ys,K sz ys/\Mz S w sz ys v:=by
 unfold Xk at h;split at h
 ·rename_i r a n k;rw[Ao] at h;obtain⟨o,ho,h⟩:=h;cases o with
  | box=>simp at h
  | map=>simp at h
  | zj=>simp at h
  | gone=>simp at h
  | row e sz es Y=>
   simp only at h;obtain⟨hm,Q,U,hK⟩:=h;obtain⟨g0,g1,g2,g3⟩:=m.obj r _ ho;cases hy with|Fc _ _ _ _ _ k c a0 hv hk h1=>
   obtain⟨q1,q2,_⟩:=(h1 e sz es Y ho).2 hm;have V:Q.length=n:=by rw[<- U];simp;omega
   have F :∀i (J:i<Q.length),Q[i]=es[a+i]'(by omega):=λi J=>by subst U;simp
   refine⟨sz,Q,hK,λi J=>by rw[F i J];exact g1 _ _,λi J j M=>by
    have:=F i J;simp only[this] at M⊢
    exact g2 _ _ j M,?_⟩
   rcases q2 with q2|⟨b,a6,c',q2,q3,_⟩
   ·have:Q=[]:=Xag (by omega);exact .inl ⟨⟨a0,c,by rw[hv,hk,q2]⟩,this⟩
   rcases g3 with ⟨Z,_⟩|⟨b',H,vs,f,Z,f2,f3,f4,f5,f6,f7,f8⟩
   ·rw[Z] at q2;simp at q2
   rw[Z] at q2;simp only[X21,X23] at q2;obtain⟨rfl,rfl⟩:=q2;refine .inr ⟨b',H.2+a*sz,c',λi j=>f (a+i) j,by rw[q3,V],λi j J M=>?_,λi J j M=>?_⟩
   ·rw[BB f2,show H.2+a*sz+i*sz+j=H.2+((a+i)*sz+j) by rw[X29];omega];exact f6 (a+i) j (by omega) M
   have:=F i J;simp only[this] at M⊢;exact f7 (a+i) (by omega) j M
 exact Zd m hy h
def flat (n sz:Nat)(f:Nat->Nat->A):O A:=(Xbu (n*sz)).map λk=>f (k/sz) (k%sz)
def tT (n sz:Nat)(f:Nat->Nat->A):(flat n sz f).length=n*sz:=by simp[flat]
def flat_get {n sz:Nat}(f:Nat->Nat->A){i j:Nat}(H:i<n)(F:j<sz):(flat n sz f)[i*sz+j]?=some (f i j):=by
 have:i*sz+j<n*sz:=by have:(i+1)*sz<=n*sz:=X28 _ H;rw[X29] at this;omega
 have zx:0<sz:=by omega
 have J:(i*sz+j)/sz=i:=by rw[Xc6,Nat.mul_add_div zx,Xee F,Xcy]
 have K:(i*sz+j)%sz=j:=by rw[Xc6,Nat.mul_add_mod,Xbf F]
 simp[flat,this,J,K]
def MU {n sz:Nat}{f:Nat->Nat->A}{g:Nat->C A}(h :∀i j,i<n->j<sz->g (i*sz+j)=some (f i j)) :∀k v,(flat n sz f)[k]?=some v->g k=some v:=by
 intro k v H;obtain⟨F,rfl⟩:=X13.1 H;rw[tT] at F;have zx:0<sz:=by
  rcases Nat.eq_zero_or_pos sz with h|h
  ·subst h;simp at F
  exact h
 have J:k/sz<n:=Nat.div_lt_of_lt_mul (by rw[Xc6];exact F);have K:k%sz<sz:=Xeu _ zx;have M:k/sz*sz+k%sz=k:=by rw[Xc6];exact Nat.div_add_mod k sz
 have:=h _ _ J K;rw[M] at this;simp[flat,this]
def Mz.one {sz n:Nat}{ys:O D}{f:Nat->Nat->A}(M:n=ys.length)(Q :∀i (H:i<ys.length),ys[i].cells.length=sz)(U :∀i (H:i<ys.length) j (V:j<ys[i].cells.length),ys[i].cells[j].isAgg=false) (Y :∀i (H:i<ys.length) j (V:j<ys[i].cells.length),zf S w ys[i].cells[j] (f i j)) :∀u∈flat n sz f,u.oneCell'=true:=by
 intro u Z;obtain⟨k,F,rfl⟩:=Xai Z;rw[tT] at F;have zx:0<sz:=by
  rcases Nat.eq_zero_or_pos sz with h|h
  ·subst h;simp at F
  exact h
 have J:k/sz<ys.length:=by rw[<- M];exact Nat.div_lt_of_lt_mul (by rw[Xc6];exact F)
 have K:k%sz<ys[k/sz].cells.length:=by rw[Q];exact Xeu _ zx
 have:=(Y _ J _ K).one (U _ J _ K);simpa[flat] using this
def UW {es ys:O D}{sz:Nat}(H :∀i (F:i<es.length),es[i].cells.length=sz)(J :∀i (F:i<ys.length),ys[i].cells.length=sz) : ∀i (F:i<(es++ys).length),(es++ys)[i].cells.length=sz:=by
 intro i F;rw[Xcz];split
 ·exact H _ _
 exact J _ _
def Ku {t ty e:Nat}(H:P.underlying t=some (.slice e)){i:TypeInfo}(J:P.info? e=some i)(a:C Addr)(n c:Nat)(K:n<=c){F:C Addr}{M:Nat} : (Xc0 #[t,t] ty #[.slice a n c,.slice F 0 M]).run P w=.ok (.slice a n c) w:=by cases a<;>cases F<;>simp[Xc0,Xae H,sizeOf,Xdx,J,Builtin.lenOf,K,Builtin.firstCells,storeCells,loadCells,loadCellsFrom]
def N1 (t ty e:TypeId)(i:TypeInfo)(Y:P.underlying t=some (.slice e))(Z:P.info? e=some i) (g o H J:Nat) (K:Array A) (hg:w.heap[g]?=some (.cells K e (0,0))) (a:Addr) (m c:Nat) (F:O A) (hl:F.length=m*i.size) (M :∀j u,F[j]?=some u->w.cell? (a.add j)=some u) (h1 :∀u∈F,u.oneCell'=true) (Q:H+m<=J) (U:o+H*i.size+F.length<=K.size) : (Xc0 #[t,t] ty #[.slice (some ⟨g,o,none⟩) H J,.slice (some a) m c]).run P w = .ok (.slice (some ⟨g,o,none⟩) (H+m) J) (w.setRow g (K.toList.take (o+H*i.size)++F++K.toList.drop (o+H*i.size+F.length)).toArray):=by have hf:=run_firstCells_some (P:=P) w i.size m a m c F hl M;have V:=run_storeCells_at P g (o+H*i.size) e F 0 K w hg (by simpa using U) h1;simp only[Xcy] at V;simp[Xc0,Xae Y,sizeOf,Xdx,Z,Builtin.lenOf,Q,hf,Addr.add_lit,V]
def Mem.fz (m:Mem E w S φ ob){r e sz:Nat}{es:O D}{f F:FZ}(J:ob r=some (.row e sz es f))(Z:F.frozen=f.frozen)(U :∀q∈F.refs,ob q≠none)(hl :∀i j q n,F=.lk i j q n->es.length<=i\/f=.lk i j q n) : Mem E w S φ (zg ob r (some (.row e sz es F)))/\Kept w S φ ob w S φ (zg ob r (some (.row e sz es F))):=by
 obtain⟨g0,g1,g2,g3⟩:=m.obj r _ J;have:=m.set r _ (.row e sz es F) w (φ r) J (λ_ _ _=>rfl) (Xak _) ⟨rfl,rfl,rfl,Xak _⟩ (λ_ _ _ _ _=>rfl) (.inl rfl) (.inl ⟨gS _ _ _,by simp[J,Ga],λ⟨cs,h⟩=>by simp at h⟩) U λV=>by
  refine⟨g0,g1,g2,g3.imp (λh=>⟨by rw[gS];exact h.1,h.2⟩) ?_⟩;rintro⟨b,K,vs,g,f1,f2,f3,f4,f5,f6,f7,f8⟩;refine⟨b,K,vs,g,by rw[gS];exact f1,f2,f3,f4,f5,f6,λi H j M=>(f7 i H j M).mono V.k,λo h=>f8.1 o (by rw[Z] at h;exact h),λi j q n h H M=>?_⟩;rcases hl i j q n h with Y|Y
  ·omega
  exact V.Ke (λq' Q=>U q' (by rw[h];simpa[AV.refs] using Q)) (f8.2 i j q n Y H M)
 have hu:zg φ r (φ r)=φ:=by funext i;by_cases H:i=r<;>simp[zg,H]
 rw[hu] at this;exact this
structure MG (P:Program)(w:World)(t u ty e:Nat)(z:Value)(i:TypeInfo)(sz n:Nat)(f:Nat->Nat->Value)(vy:Value):Prop where
 nop:n=0->∀(a:Option Addr) (m c:Nat),m<=c->(Builtin.append_ #[t,u] ty #[.slice a m c,vy]).run P w=.ok (.slice a m c) w
 new:0<n->∀(a0:Option Addr),n*i.bytes<=281474976710656->(Builtin.append_ #[t,u] ty #[.slice a0 0 0,vy]).run P w =
  .ok (.slice (some ⟨w.heap.size,0,none⟩) n (grownCap w n 0 e)) (w.drew.alloc (.cells ((flat n sz f).toArray++Builtin.zeroCells z.cells (grownCap w n 0 e-n)) e))
 room:0<n->∀(g o sLen sCap:Nat) (cur:Array Value),w.heap[g]?=some (.cells cur e (0,0))->sLen+n<=sCap->o+sLen*sz+n*sz<=cur.size->
  (Builtin.append_ #[t,u] ty #[.slice (some ⟨g,o,none⟩) sLen sCap,vy]).run P w=.ok (.slice (some ⟨g,o,none⟩) (sLen+n) sCap) (w.setRow g (cur.toList.take (o+sLen*sz)++flat n sz f++cur.toList.drop (o+sLen*sz+(flat n sz f).length)).toArray)
 grow:0<n->∀(b:Addr) (sLen sCap:Nat) (olds:List Value),olds.length=sLen*sz->(∀j v,olds[j]?=some v->w.cell? (b.add j)=some v)->sCap<sLen+n->((sLen+n:Nat):Int)<=9223372036854775807->Builtin.nextslicecap (sLen+n) sCap*i.bytes<=281474976710656->
  (Builtin.append_ #[t,u] ty #[.slice (some b) sLen sCap,vy]).run P w=.ok (.slice (some ⟨w.heap.size,0,none⟩) (sLen+n) (grownCap w (sLen+n) sCap e))
   (w.drew.alloc (.cells (olds.toArray++(flat n sz f).toArray++Builtin.zeroCells z.cells (grownCap w (sLen+n) sCap e-(sLen+n))) e))
def KA (m:Mem E w S φ ob){t u ty e:Nat}{al:TI}(bf:Lw P e al)(ht:P.underlying t=some (.slice e)){r sz:Nat}{es ys:O D}{frz fz':FZ}(ar:fz'.frozen=frz.frozen)(ho:ob r=some (.row e sz es frz)){vx vy:A} (hv:JF φ r es.length vx) {f:Nat->Nat->A} (af :∀i (J:i<ys.length),ys[i].cells.length=sz) (ag :∀i (J:i<ys.length) j (H:j<ys[i].cells.length),ys[i].cells[j].isAgg=false) (hr :∀i (J:i<ys.length) j (H:j<ys[i].cells.length),zf S w ys[i].cells[j] (f i j)) (hy :∀{i z},P.info? e=some i->i.zero=some z->MG P w t u ty e z i sz ys.length f vy) (a6 :∀i j q n,fz'=.lk i j q n->ob q≠none/\∃i0,i=es.length+i0/\(i0<ys.length->j<sz->kI S w φ ob (.own q n) (f i0 j))) (zx:al.size=sz) (bg:(es.length+ys.length)*al.bytes<=2^47) (a7:es.length+ys.length<=2^47) : ∃u' w' φ',(Xc0 #[t,u] ty #[vx,vy]).run P w=.ok u' w'/\Mem E w' S φ' (zg ob r (some (.row e sz (es++ys) fz')))/\Kept w S φ ob w' S φ' (zg ob r (some (.row e sz (es++ys) fz')))/\JF φ' r (es++ys).length u':=by
 obtain⟨i,z,J,bh,bi,hz,bj,bx,_⟩:=bf.Dg;rw[zx] at bh;obtain⟨g0,g1,g2,g3⟩:=m.obj r _ ho;have bz:ob r≠none:=by simp[ho]
 have Q :∀q∈fz'.refs,ob q≠none:=by
  intro q hq;cases hz:fz' with
  | no=>simp[hz] at hq
  | Dd=>simp[hz] at hq
  | lk i j q' n=>simp only[hz,FZ.Kb,X11] at hq;rw[hq];exact (a6 _ _ _ _ hz).1
 have ah :∀(h:ys=[]),Mem E w S φ (zg ob r (some (.row e sz (es++ys) fz')))/\Kept w S φ ob w S φ (zg ob r (some (.row e sz (es++ys) fz'))):=by intro h;subst h;rw[Xb1];refine m.fz ho ar Q λi j q n h=>.inl ?_;obtain⟨_,i0,h1,_⟩:=a6 i j q n h;omega
 have bk:(2:Nat)^47=140737488355328:=by decide
 rw[bk] at bg a7;have Y:(es.length+ys.length)*i.bytes<=140737488355328:=by rw[bi];omega
 have au :∀(c:Nat),Xec w (es.length+ys.length) c e<=Xc7:=λc=>grownCap_le_maxLen w _ c e (by simp only[Xc7];omega);have fresh :∀(xs:O A) (c:Nat) (hc:c<es.length+ys.length) (bl:es.length<=c) (f g:Nat->Nat->A) (U:xs=flat es.length sz g)
   (hg :∀i (J:i<es.length) j (H:j<es[i].cells.length),zf S w es[i].cells[j] (g i j))
   (hf :∀i (J:i<ys.length) j (H:j<ys[i].cells.length),zf S w ys[i].cells[j] (f i j))
   (ax :∀i j q n,fz'=.lk i j q n->i<(es++ys).length->j<sz->kI S w φ ob (.own q n) (f (i-es.length) j)),
   ∃φ',Mem E (w.drew.alloc (.cells (xs.toArray++(flat ys.length sz f).toArray++Xac z.cells (Xec w (es.length+ys.length) c e-(es.length+ys.length))) e)) S φ' (zg ob r (some (.row e sz (es++ys) fz')))/\
    Kept w S φ ob (w.drew.alloc (.cells (xs.toArray++(flat ys.length sz f).toArray++Xac z.cells (Xec w (es.length+ys.length) c e-(es.length+ys.length))) e)) S φ' (zg ob r (some (.row e sz (es++ys) fz')))/\
    JF φ' r (es++ys).length (.slice (some ⟨w.heap.size,0,none⟩) (es.length+ys.length) (Xec w (es.length+ys.length) c e)):=by
  intro xs c hc bl f g U hg hf ax;have an:=grownCap_ge w (es.length+ys.length) c e;obtain⟨md,kd⟩:=m.drew;generalize ae:w.drew.alloc (.cells (xs.toArray++(flat ys.length sz f).toArray++Xac z.cells (Xec w (es.length+ys.length) c e-(es.length+ys.length))) e)=w';have ay:w'.heap[w.heap.size]?=some (.cells (xs.toArray++(flat ys.length sz f).toArray++Xac z.cells (Xec w (es.length+ys.length) c e-(es.length+ys.length))) e (0,0)):=by rw[<- ae];exact heap_alloc_new w.drew _
  have ai :∀k,k<w.heap.size->w'.heap[k]?=w.heap[k]?:=λk hk=>by rw[<- ae];exact HI w.drew _ hk
  have bm:w'.heap.size=w.heap.size+1:=by rw[<- ae];simp
  have az:((xs.toArray++(flat ys.length sz f).toArray++Xac z.cells (Xec w (es.length+ys.length) c e-(es.length+ys.length)))).size=Xec w (es.length+ys.length) c e*sz:=by simp only[Array.size_append,Xci,size_zeroCells,bj,U,tT,zx];rw[<- X29,<- X29];congr 1;omega
  obtain⟨m',k'⟩:=m.set r _ (.row e sz (es++ys) fz') w' (some (w.heap.size,(Xec w (es.length+ys.length) c e,0))) ho (λk hk _=>ai k hk) (by omega) (by rw[<- ae];exact⟨rfl,rfl,rfl,Nat.le_succ _⟩)
   (λb' c' o' c0 hS=>CL (ai b' (m.bS b' o' hS)) o') (.inr ⟨_,_,rfl,Xak _,by omega⟩)
   (.inr <| .inl ⟨e,sz,es,frz,es++ys,fz',ho,gS _ _ _,by simp,λhh=>by
    have bn:ys=[]:=by simpa using hh
    subst bn;simp at hc
    omega⟩) (λr' ao=>Q r' ao) (λhk=>by
    refine⟨g0,UW g1 af,λi J j H=>?_,.inr ⟨w.heap.size,(Xec w (es.length+ys.length) c e,0),_,λi j=>if i<es.length then g i j else f (i-es.length) j,gS _ _ _,ay,by simpa using an,au c,by rw[az];exact Nat.le_of_eq (Xbc _),λi j J H=>?_,λi J j H=>?_,λo' _ a8=>?_,λi j q n hq J H=>?_⟩⟩
    ·have e1:(es++ys)[i]=if h:i<es.length then es[i] else ys[i-es.length]'(by simp at J;omega):=Xcz ..;simp only[e1] at H⊢;split at H
     ·rename_i h;simp only[h,Xf5];exact g2 i h j H
     rename_i h;simp only[h,Xf1,Xev];exact ag _ _ j H
    ·simp only[X2] at J;simp only[Xbc]
     rw[Xbm (by
      simp only[Array.size_append,Xci,U,tT,<- X29];have:(i+1)*sz<=(es.length+ys.length)*sz:=X28 _ J;rw[X29] at this
      omega)]
     by_cases h:i<es.length
     ·simp only[Xa2 h]
      rw[Xbm (by
       simp only[Xci,U,tT];have:(i+1)*sz<=es.length*sz:=X28 _ h;rw[X29] at this
       omega)]
      simp only[U];simpa using flat_get g h H
     have ba:es.length*sz<=i*sz:=X28 _ (by omega);simp only[Xa1 h];rw[Array.getElem?_append_right (by simp only[Xci,U,tT];omega)];simp only[Xci,U,tT];have e2:i*sz+j-es.length*sz=(i-es.length)*sz+j:=by rw[Nat.sub_mul];omega
     rw[e2];simpa using flat_get f (show i-es.length<ys.length by omega) H
    ·have e1:(es++ys)[i]=if h:i<es.length then es[i] else ys[i-es.length]'(by simp at J;omega):=Xcz ..;simp only[e1] at H⊢;split at H
     ·rename_i h;simp only[h,Xf5,Xet];exact (hg i h j H).mono hk.k
     rename_i h;simp only[h,Xf1,Xev,Xd4];exact (hf _ _ j H).mono hk.k
    ·exact absurd (m.bS _ _ a8) (Xep _)
    obtain⟨h1,i0,h2,_⟩:=a6 i j q n hq;simp only[Xa1 (show ¬ i<es.length by omega)]
    exact hk.Ke (λq' aa=>by simp only[AV.refs,X11] at aa;rw[aa];exact h1) (ax i j q n hq J H))
  exact⟨_,m',k',.inr ⟨_,_,gS _ _ _,by simp⟩⟩
 have ap :∀i j q n,fz'=.lk i j q n->i<(es++ys).length->j<sz->kI S w φ ob (.own q n) (f (i-es.length) j):=by
  intro i j q n hq J H;obtain⟨_,i0,h2,h3⟩:=a6 i j q n hq;simp only[X2] at J;have e:i-es.length=i0:=by omega
  rw[e];exact h3 (by omega) H
 have hR:=hy J hz;by_cases Z:ys=[]
 ·refine⟨vx,w,φ,?_,(ah Z).1,(ah Z).2,?_⟩
  ·rcases hv with ⟨a1,a2,a0,rfl⟩|⟨b1,F,a1,rfl⟩
   ·exact hR.nop (by rw[Z];rfl) a0 0 0 (Xak _)
   rcases g3 with ⟨f1,_⟩|⟨b',bb,K,g,f1,f2,f3,_⟩
   ·rw[a1] at f1;simp at f1
   rw[a1] at f1;simp only[X21,X23] at f1;obtain⟨rfl,rfl⟩:=f1;exact hR.nop (by rw[Z];rfl) _ _ _ f3
  rw[Z,Xb1];exact hv
 have ab:0<ys.length:=Xbi.2 Z;rcases hv with ⟨a1,a2,a0,rfl⟩|⟨b1,F,a1,rfl⟩
 ·
  have bc:es=[]:=Xag a2;have bo:ys.length*i.bytes<=281474976710656:=by rw[a2,Xbc] at Y;omega
  have M:=hR.new ab a0 bo;obtain⟨φ',h1,h2,h3⟩:=fresh [] 0 (by omega) (by omega) f (λ_ _=>Xck) (by simp[bc,flat]) (λi J=>by simp[bc] at J) hr ap;simp only[a2,Xbc] at h1 h2 h3;exact⟨_,_,φ',M,by simpa using h1,by simpa using h2,h3⟩
 rcases g3 with ⟨f1,_⟩|⟨b',bb,K,g,f1,f2,f3,f4,f5,f6,f7,f8⟩
 ·rw[a1] at f1;simp at f1
 rw[a1] at f1;simp only[X21,X23] at f1;obtain⟨rfl,rfl⟩:=f1;by_cases V:es.length+ys.length<=F.1
 ·have ba:(es.length+ys.length)*sz<=F.1*sz:=X28 _ V;rw[X29] at ba;have M:=hR.room ab b1 F.2 es.length F.1 K f2 V (by omega);have bp:(K.toList.take (F.2+es.length*sz)++flat ys.length sz f++K.toList.drop (F.2+es.length*sz+(flat ys.length sz f).length))=BC K.toList (F.2+es.length*sz) (flat ys.length sz f):=rfl;rw[bp] at M;have aj:F.2+es.length*sz+(flat ys.length sz f).length<=K.toList.length:=by rw[tT];simp;omega
  obtain⟨q1,q2,q3⟩:=IF w b1 (BC K.toList (F.2+es.length*sz) (flat ys.length sz f)).toArray;have hh:=setRow_heap w b1 K (BC K.toList (F.2+es.length*sz) (flat ys.length sz f)).toArray e (0,0) f2;have ak :∀k,(BC K.toList (F.2+es.length*sz) (flat ys.length sz f)).toArray[k]?=if F.2+es.length*sz<=k/\k<F.2+es.length*sz+ys.length*sz then (flat ys.length sz f)[k-(F.2+es.length*sz)]? else K[k]?:=by intro k;have:=ED K.toList (F.2+es.length*sz) (flat ys.length sz f) aj k;rw[tT] at this;simpa using this
  have bq :∀o',S b1 o'->o'<F.2+es.length*sz:=by intro o' a8;refine Xbs λan=>f8.1 o' ?_ a8;cases frz<;>simp;exact an
  obtain⟨m',k'⟩:=m.set r _ (.row e sz (es++ys) fz') (w.setRow b1 (BC K.toList (F.2+es.length*sz) (flat ys.length sz f)).toArray) (φ r) ho (λk hk br=>q1 k λe=>br F (by rw[e];exact a1)) (by omega) q3
   (λb2 c2 o2 a7 bu=>by
    rw[a1] at a7;simp only[X21,X23] at a7;obtain⟨rfl,rfl⟩:=a7
    rw[BB hh,BB f2,ak,Xa1 (by have:=bq o2 bu;omega)]) (.inl rfl)
   (.inr <| .inl ⟨e,sz,es,frz,es++ys,fz',ho,gS _ _ _,by simp,λ_=>gS _ _ _⟩) (λr' ao=>Q r' ao) (λhk=>by
    refine⟨g0,UW g1 af,λi J j H=>?_,.inr ⟨b1,F,_,λi j=>if i<es.length then g i j else f (i-es.length) j,by rw[gS];exact a1,hh,by simpa using V,f4,?_,λi j J H=>?_,λi J j H=>?_,λo' bd a8=>?_,λi j q n hq J H=>?_⟩⟩
    ·have e1:(es++ys)[i]=if h:i<es.length then es[i] else ys[i-es.length]'(by simp at J;omega):=Xcz ..;simp only[e1] at H⊢;split at H
     ·rename_i h;simp only[h,Xf5];exact g2 i h j H
     rename_i h;simp only[h,Xf1,Xev];exact ag _ _ j H
    ·rw[Xci,BN _ _ _ aj];simpa using f5
    ·simp only[X2] at J;rw[ak];by_cases h:i<es.length
     ·have:(i+1)*sz<=es.length*sz:=X28 _ h;rw[X29] at this;simp only[Xa2 h];rw[Xa1 (by omega)];exact f6 i j h H
     have bw:es.length*sz<=i*sz:=X28 _ (by omega);have be:(i+1)*sz<=(es.length+ys.length)*sz:=X28 _ J;rw[X29,X29] at be;simp only[Xa1 h];rw[Xa2 (by omega)];have e2:F.2+(i*sz+j)-(F.2+es.length*sz)=(i-es.length)*sz+j:=by rw[Nat.sub_mul];omega
     rw[e2];exact flat_get f (show i-es.length<ys.length by omega) H
    ·have e1:(es++ys)[i]=if h:i<es.length then es[i] else ys[i-es.length]'(by simp at J;omega):=Xcz ..;simp only[e1] at H⊢;split at H
     ·rename_i h;simp only[h,Xf5,Xet];exact (f7 i h j H).mono hk.k
     rename_i h;simp only[h,Xf1,Xev,Xd4];exact (hr _ _ j H).mono hk.k
    ·refine f8.1 o' ?_ a8;rw[ar] at bd;cases frz with
     | no=>simp
     | lk=>simp
     | Dd=>simp only[FZ.Hd,Xet,X2,X29] at bd⊢;omega
    obtain⟨h1,i0,h2,_⟩:=a6 i j q n hq;simp only[Xa1 (show ¬ i<es.length by omega)]
    exact hk.Ke (λq' aa=>by simp only[AV.refs,X11] at aa;rw[aa];exact h1) (ap i j q n hq J H))
  have hu:zg φ r (φ r)=φ:=by funext i;by_cases J:i=r<;>simp[zg,J]
  rw[hu] at m' k';exact⟨_,_,φ,M,m',k',.inr ⟨_,_,a1,by simp⟩⟩
 have aq :∀j v,(flat es.length sz g)[j]?=some v->w.cell? ((⟨b1,F.2,none⟩:Addr).add j)=some v:=
  MU (g:=λk=>w.cell? ((⟨b1,F.2,none⟩:Addr).add k)) λi j J H=>by rw[Addr.C8];have:=f6 i j J H;rw[<- BB f2] at this;exact this
 have M:=hR.grow ab ⟨b1,F.2,none⟩ es.length F.1 (flat es.length sz g) (tT _ _ _) aq (by omega) (by omega) (growslice_fits (by omega) Y);obtain⟨φ',h1,h2,h3⟩:=fresh (flat es.length sz g) F.1 (by omega) f3 f g rfl f7 hr ap;exact⟨_,_,φ',M,h1,h2,h3⟩
def LN (m:Mem E w S φ ob){t ty e:Nat}{a6:TI}(a7:Lw P e a6)(V:P.underlying t=some (.slice e)){r sz:Nat}{es ys:O D}{frz fz':FZ}(ae:fz'.frozen=frz.frozen)(ho:ob r=some (.row e sz es frz)){vx vy:A} (hv:JF φ r es.length vx) (hy:Mz S w sz ys vy) (af :∀i j q n,fz'=.lk i j q n->ob q≠none/\∃Y,i=es.length+Y/\∀b o l c u,vy=.slice (some ⟨b,o,none⟩) l c->Y<l->j<sz->cellAt w b (o+(Y*sz+j))=some u->kI S w φ ob (.own q n) u) (zx:a6.size=sz) (ag:(es.length+ys.length)*a6.bytes<=2^47) (ah:es.length+ys.length<=2^47) : ∃u w' φ',(Xc0 #[t,t] ty #[vx,vy]).run P w=.ok u w'/\Mem E w' S φ' (zg ob r (some (.row e sz (es++ys) fz')))/\Kept w S φ ob w' S φ' (zg ob r (some (.row e sz (es++ys) fz')))/\JF φ' r (es++ys).length u:=by
 rcases hy.v with ⟨⟨a2,c2,rfl⟩,an⟩|⟨b,o,U,f,rfl,hc,hr⟩
 ·have h0:ys.length=0:=by rw[an];rfl
  refine KA (f:=λ_ _=>Xck) m a7 V ae ho hv hy.zx hy.na (λi K=>by omega) (λ{i z} K hz=>⟨λ_ a m c a8=>Ku V K a m c a8,λh=>by omega,λh=>by omega,λh=>by omega⟩) (λi j q n h=>?_) zx ag ah;obtain⟨l1,Y,l2,_⟩:=af i j q n h;exact⟨l1,Y,l2,λh=>by omega⟩
 refine KA (f:=f) m a7 V ae ho hv hy.zx hy.na hr (λ{i z} K hz=>?_) (λi j q n h=>?_) zx ag ah
 ·obtain⟨i',z',ai,H,ar,au,ax,ay,_⟩:=a7.Dg;rw[K] at ai;cases ai;rw[zx] at H;have F :∀j v,(flat ys.length sz f)[j]?=some v->w.cell? ((⟨b,o,none⟩:Addr).add j)=some v:=
   MU (g:=λk=>w.cell? ((⟨b,o,none⟩:Addr).add k)) λi j K hj=>by rw[Addr.C8];have:=hc i j K hj;rw[Xc5] at this;exact this
  refine⟨λh0 a m c a8=>by rw[h0];exact Ku V K a m c a8,λJ a0 aj=>?_,λJ g o' M Q ao hg aa Z=>?_,λJ q M Q ak ap ab hg aq Z=>?_⟩
  ·cases a0 with
   | none=>exact run_append_nil (P:=P) w t ty e i z V K hz ⟨b,o,none⟩ ys.length U (flat ys.length sz f) (by rw[tT,H]) F J (by omega) aj
   | some q=>
    have h:=run_append_grow (P:=P) w t ty e i z V K hz q 0 0 [] (by simp) (λj v h=>by simp at h) ⟨b,o,none⟩ ys.length U (flat ys.length sz f) (by rw[tT,H]) F (by omega) (by omega)
     (by rw[Xbc,nextslicecap_zero J];exact aj)
    simpa using h
  ·have h:=N1 (P:=P) (w:=w) t ty e i V K g o' M Q ao hg ⟨b,o,none⟩ ys.length U (flat ys.length sz f) (by rw[tT,H]) F (Mz.one rfl hy.zx hy.na hr) aa (by rw[H,tT];omega);rw[H] at h;exact h
  exact run_append_grow (P:=P) w t ty e i z V K hz q M Q ak (by rw[H];exact ap) ab ⟨b,o,none⟩ ys.length U (flat ys.length sz f) (by rw[tT,H]) F hg aq Z
 obtain⟨l1,Y,l2,l3⟩:=af i j q n h;exact⟨l1,Y,l2,λal hj=>l3 b o _ _ _ rfl al hj (by rw[<- Xc5];exact hc Y j al hj)⟩
def Ma (l:O UInt8):strOfNums (l.map λc=>(c.toNat:Int))=⟨l.toArray⟩:=by
 have:(strOfNums (l.map λc=>(c.toNat:Int))).data.toList=l:=by
  rw[strOfNums_data,List.map_map];conv=>rhs;rw[<- List.map_id l]
  refine List.map_congr_left λc _=>?_;simp
 cases h:strOfNums (l.map λc=>(c.toNat:Int)) with
 | mk d=>rw[h] at this;simp only at this;congr 1;exact Array.toList_inj.1 (by simpa using this)
def ZU {obl:O (C OB)}(hT:xD P T)(m:Mem E w S φ (λr=>obl.getD r none)){H dst:Nat}{x:AV}{vx:A}{K:AV->Prop}(hx:kI S w φ (λr=>obl.getD r none) x vx)(h:iu T H dst x obl K) : GW K ((convert H dst vx).run P w) w:=by
 unfold iu at h;rw[AI] at h;obtain⟨Z,h⟩:=h;have a6:(T.get H).kind.Cy≠none:=λQ=>by simp[Q] at Z
 have U:=hT.of a6;obtain⟨ds,a7⟩ :∃d,P.underlying H=some d:=by
  cases Q:(T.get H).kind.Cy with
  | none=>exact absurd Q a6
  | some q=>cases q with
   | true=>obtain⟨d,hd,_⟩:=U.kind.row Q;exact⟨d,hd⟩
   | false=>obtain⟨d,hd,_⟩:=U.kind.plain Q;exact⟨d,hd⟩
 have ae:(T.get dst).kind.Cy≠none:=by intro Q;cases hk:(T.get dst).kind<;>simp[hk,TK.Cy] at Q;simp[hk] at h
 have F:=(hT.of ae).kind;split at h
 ·rename_i k _ n hk;rw[hk] at F;obtain rfl:=hx.int;obtain⟨r,rfl,Y⟩:=h;refine⟨_,rfl,Y,?_⟩;simp only[zM] at F;simp[convert,Xae a7,Xae F,Conv.intToInt]
 ·rename_i s hk;rw[hk] at F;obtain rfl:=hx.str;refine⟨_,rfl,h,?_⟩;simp only[zM] at F;simp only[convert,Xb0,Xae a7,Xae F,Xaw];cases ds<;>rfl
 ·rename_i hk _;rw[hk] at F;simp only[zM] at F;split at h
  ·rename_i e af;have J:=U.kind;rw[af] at J;simp only[zM] at J;split at h
   ·rename_i a8;have ag:(T.get e).kind.Cy≠none:=by rw[a8];simp[TK.Cy]
    have M:=(hT.of ag).kind;rw[a8] at M;simp only[zM] at M;rw[AI] at h;obtain⟨_,h⟩:=h;obtain⟨sz,ys,Y,ah⟩:=Kr m hx h;rw[AI] at Y;obtain⟨zx,l,hl,Y⟩:=Y;have aa:sz=1:=X27 zx;subst aa hl;refine⟨_,rfl,Y,?_⟩;rcases ah.v with ⟨⟨a2,c2,rfl⟩,h0⟩|⟨b,o,ai,f,rfl,Q,hr⟩
    ·have:l=[]:=by simpa using h0
     subst this;cases a2 with
     | none=>rw[run_convert_bytes_nil w H e J M 0 c2 dst F];rfl
     | some a2=>rw[run_convert_bytes_string w H dst e _ 0 c2 J M F];simp[Conv.bytesToString,loadCells,loadCellsFrom];rfl
    rw[run_convert_bytes_arg w H e J M b o _ ai (l.map λc=>(c.toNat:Int)) (by simp) (λi hi=>?_) dst F,Ma];have V:i<(l.map λc=>(D.u c.toNat:D)).length:=hi;have h1:=Q i 0 V (by omega);have h2:=hr i V 0 (by simp[D.cells]);simp only[Nat.mul_one,Xcy] at h1;have ab:i<l.length:=by simpa using V
    simp only[Xb6,D.cells,Xbg] at h2;have h3:w.cell? ⟨b,o+i,none⟩=some (f i 0):=h1;rw[h3];generalize f i 0=u at h2⊢;cases h2 with|val _ _=>simp[ab]
   exact h.elim
  exact h.elim
 exact h.elim
def Oo {t i o s J:Nat}{fs:O (Nat×Nat×Nat)}(h:zM P t (.struct fs))(K:fs[i]?=some (o,s,J)) : ∃F f,P.underlying t=some (.struct F)/\F[i]?=some f/\f.offset=o/\f.type=J/\(P.info? f.type).map (·.size)=some s:=by
 obtain⟨_,_,F,M,Q,_⟩:=h;have:=Xap (λl=>l[i]?) Q;simp only[Xej,K,Xcb] at this;cases H:F[i]? with
 | none=>simp[H] at this
 | some f=>simp[H] at this;exact⟨F,f,M,H,this.1,this.2.2,by simpa using this.2.1⟩
def Lp {t i o s Q:Nat}{fs:O (Nat×Nat×Nat)}(h:zM P t (.struct fs))(U:fs[i]?=some (o,s,Q))(hs:0<s)(b off:Nat) : (Instr.fieldAt t (.pointer (some ⟨b,off,none⟩)) i).run P w=.ok (.pointer (some ⟨b,off+o,none⟩)) w:=by
 obtain⟨F,f,V,Y,Z,h4,M⟩:=Oo h U;cases H:P.info? f.type with
 | none=>simp[H] at M
 | some J=>
  have zx:J.size=s:=by simpa[H] using M
  have K:¬ s=0:=by omega
  simp[Instr.fieldAt,Xae V,Y,Xd2,fieldPlace,sizeOf,Xdx,H,zx,K,Z,Addr.C8]
def SO (M:xD P T){t i:Nat}{K:Nat->Nat->Nat->Prop}(h:Oa T t i K) :∃o s H fs,K o s H/\zM P t (.struct fs)/\fs[i]?=some (o,s,H)/\0<s:=by
 unfold Oa at h;split at h
 ·rename_i fs hk;have J:(T.get t).kind.Cy≠none:=by rw[hk];simp[TK.Cy]
  have F:=(M.of J).kind;rw[hk] at F;split at h
  ·rename_i o s H Q;split at h
   ·exact h.elim
   rename_i U;exact⟨o,U+1,H,fs,h,F,Q,Nat.succ_pos _⟩
  exact h.elim
 exact h.elim
def Gl {t e:Nat}(F:P.underlying t=some (.slice e)){i:TypeInfo}(H:P.info? e=some i)(b o n c:Nat)(k:IntKind)(j:Int)(h:0<=j/\j<n) : (Instr.indexAt t (.slice (some ⟨b,o,none⟩) n c) (.int k j)).run P w=.ok (.pointer (some ⟨b,o+j.toNat*i.size,none⟩)) w:=by simp[Instr.indexAt,Xae F,asIntOf,h,sizeOf,Xdx,H,Addr.C8]
def Kz {t e m:Nat}(F:P.underlying t=some (.array m e)){i:TypeInfo}(H:P.info? e=some i)(b o:Nat)(k:IntKind)(j:Int)(h:0<=j/\j<m) : (Instr.indexAt t (.pointer (some ⟨b,o,none⟩)) (.int k j)).run P w=.ok (.pointer (some ⟨b,o+j.toNat*i.size,none⟩)) w:=by simp[Instr.indexAt,Xae F,asIntOf,Xd2,h,sizeOf,Xdx,H,Addr.C8]
def Ar {t:Nat}(h:A7 T t=true):(T.get t).kind.Cy≠none:=by intro F;simp[A7,F] at h
def Av (F:xD P T){t e:Nat}(h:(T.get t).kind=.slice e):P.underlying t=some (.slice e):=by have:=(F.of (t:=t) (by rw[h];simp[TK.Cy])).kind;rwa [h] at this
def PG (F:xD P T){t n e:Nat}(h:(T.get t).kind=.arr n e):P.underlying t=some (.array n e):=by have:=(F.of (t:=t) (by rw[h];simp[TK.Cy])).kind;rwa [h] at this
def OA {obl:O (C OB)}(hT:xD P T){t:Nat}{x y:AV}{vx vy:A}{K:AV->Prop}(hx:kI S w φ (λr=>obl.getD r none) x vx) (a7:oA (λr=>obl.getD r none) x) (hy:kI S w φ (λr=>obl.getD r none) y vy) (h:JM T t x y obl K) : ∃aa u,K aa/\(Instr.indexAt t vx vy).run P w=.ok u w/\kI S w φ (λr=>obl.getD r none) aa u/\oA (λr=>obl.getD r none) aa:=by
 unfold JM at h;split at h
 ·obtain rfl:=hy.int;rename_i k i;split at h
  ·rename_i e sz es hk;simp only[AI] at h;obtain⟨J,zx,hb,v,hv,an,hK⟩:=h;have M:=hT.of (Ar J);obtain⟨Y,z,F,Q,_⟩:=M.Dg;have Z:sz=(T.get e).size:=X27 zx;cases hx with|d _ _ hx=>
   cases hx with
   | zZ=>simp at hb;omega
   | Cg _ _ b o a6 f hl hc af hS hn hr=>
    have a8:i.toNat<es.length:=by omega
    have aj:v=es[i.toNat]:=by rw[<- hv];simp[a8]
    subst aj;refine⟨_,_,hK,Gl (Av hT hk) F b o _ a6 k i hb,?_,λr hr=>by simp[AV.refs] at hr⟩;rw[Q,<- Z];exact .DM _ b _ (f i.toNat) (λj hj=>hS i.toNat j a8 (by rw[af] at hj;exact hj)) (λj hj=>hn _ a8 j hj) λj hj=>hr _ a8 j hj
  ·rename_i e r n hk;rw[Ao] at h;obtain⟨o,ho,h⟩:=h;cases o with
   | box cs=>
    simp only[AI] at h;obtain⟨J,zx,rfl,hK⟩:=h;have M:=hT.of (Ar J);obtain⟨Y,z,F,Q,_⟩:=M.Dg;cases hx with|own _ _ _ kk c a0 hv J h1 V=>
    obtain⟨rfl,b,c',a1,ak⟩:=V cs ho;rw[ak];refine⟨_,_,hK,Gl (Av hT hk) F b 0 1 1 k 0 (by omega),?_,λr' U=>a7 r' (by simpa[AV.refs] using U)⟩;have e0:(0:Nat)+(0:Int).toNat*Y.size=0:=by simp
    rw[e0];refine .ref r 0 b c' a1 λe2 ag ah ai H=>?_;rw[ho] at H;simp at H
   | map=>simp at h
   | zj=>simp at h
   | gone=>simp at h
   | row e' sz es al=>
    simp only[AI] at h;obtain⟨J,zx,hn,hb,hK⟩:=h;have M:=hT.of (Ar J);obtain⟨Y,z,F,Q,_⟩:=M.Dg;have Z:sz=(T.get e).size:=X27 zx;cases hx with|own _ _ _ kk c a0 hv J h1 V=>
    rcases (h1 e' sz es al ho).2 hn with ⟨a1,a2,_,rfl⟩|⟨b,a6,a1,rfl⟩
    ·omega
    refine⟨_,_,hK,Gl (Av hT hk) F b a6.2 n a6.1 k i (by omega),?_,λr' U=>a7 r' (by simpa[AV.refs] using U)⟩;rw[Q,<- Z,<- Xcy (i.toNat*sz)];refine .Bp r n i.toNat 0 _ (λe2 ag ah ai H=>?_) (λcs H=>by rw[ho] at H;simp at H) ⟨_,rfl⟩;rw[ho] at H;simp only[X21,OB.row.injEq] at H;obtain⟨rfl,rfl,rfl,rfl⟩:=H;exact⟨by omega,λ_=>⟨by omega,b,a6,a1,rfl⟩⟩
  ·rename_i n e r off hk;simp only[AI] at h;obtain⟨J,_,⟨hb,hK⟩|⟨ab,hb,j,hj,hK⟩⟩:=h;rotate_left
   ·have M:=hT.of (Ar J);obtain⟨Y,z,F,Q,_⟩:=M.Dg;have ab:=X27 ab;cases hx with|ref _ _ b c ae V=>
    refine⟨_,_,hK,Kz (PG hT hk) F b off k i hb,?_,λr' U=>a7 r' (by simpa[AV.refs] using U)⟩;rw[Q,ab,Nat.mul_one,hj];exact .Bp r n j off _ (λe2 ag ah f2 H=>absurd H (V _ _ _ _)) (λcs H=>⟨b,c,ae,rfl⟩) ⟨_,rfl⟩
   have M:=hT.of (Ar J);obtain⟨Y,z,F,Q,_⟩:=M.Dg;cases hx with|ref _ _ b c ae V=>
   refine⟨_,_,hK,Kz (PG hT hk) F b off k i hb,?_,λr' U=>a7 r' (by simpa[AV.refs] using U)⟩;rw[Q];exact .ref r _ b c ae V
  exact h.elim
 exact h.elim
def P0 {obl:O (C OB)}(hT:xD P T){t r a n m:Nat}{y:AV}{vx vy:A}{K:AV->Prop}(hx:kI S w φ (λr=>obl.getD r none) (.Fc r a n m) vx) (U:oA (λr=>obl.getD r none) (.Fc r a n m)) (hy:kI S w φ (λr=>obl.getD r none) y vy) (h:KQ T t r a n m y obl K) : ∃J u,K J/\(Instr.indexAt t vx vy).run P w=.ok u w/\kI S w φ (λr=>obl.getD r none) J u/\oA (λr=>obl.getD r none) J:=by
 unfold KQ at h;split at h
 ·obtain rfl:=hy.int;rename_i kk i;split at h
  ·rename_i e hk;rw[Ao] at h;obtain⟨o,V,h⟩:=h;cases o with
   | box=>simp at h
   | map=>simp at h
   | zj=>simp at h
   | gone=>simp at h
   | row e' sz es Y=>
    simp only[AI] at h;obtain⟨Z,zx,hn,hb,j,hj,hK⟩:=h;have a6:=hT.of (Ar Z);obtain⟨a7,z,M,a8,_⟩:=a6.Dg;have Q:sz=(T.get e).size:=X27 zx;cases hx with|Fc _ _ _ _ _ k c a0 hv ab h1=>
    obtain⟨q1,q2,_⟩:=(h1 e' sz es Y V).2 hn;rcases q2 with q2|⟨b,H,c',q2,q3,_⟩
    ·omega
    rw[q3];refine⟨_,_,hK,Gl (Av hT hk) M b (H.2+a*sz) n c' kk i (by omega),?_,λr' aa=>U r' (by simpa[AV.refs] using aa)⟩;have e1:H.2+a*sz+i.toNat*a7.size=H.2+(j*sz+0):=by rw[a8,<- Q,Xc5,<- X29,hj,Xcy]
    rw[e1];refine .Bp r m j 0 _ (λe2 af ag ae F=>?_) (λcs F=>by rw[V] at F;simp at F) ⟨_,rfl⟩;rw[V] at F;simp only[X21,OB.row.injEq] at F;obtain⟨rfl,rfl,rfl,rfl⟩:=F;exact⟨by omega,λ_=>⟨by omega,b,H,q2,rfl⟩⟩
  exact h.elim
 exact h.elim
def Qa {obl:O (C OB)}(J:xD P T){t:Nat}{x y:AV}{M vy:A}{K:AV->Prop}(Q:kI S w φ (λr=>obl.getD r none) x M) (H:oA (λr=>obl.getD r none) x) (U:kI S w φ (λr=>obl.getD r none) y vy) (h:KY T t x y obl K) : ∃F u,K F/\(Instr.indexAt t M vy).run P w=.ok u w/\kI S w φ (λr=>obl.getD r none) F u/\oA (λr=>obl.getD r none) F:=by
 unfold KY at h;split at h
 ·exact P0 J Q H U h
 exact OA J Q H U h
def L9 {x:AV}{vx:A}{K:O AV->Prop}(M:kI S w φ ob x vx)(hc:oA ob x)(h:Jy x K) : ∃F vs,K F/\vx=.agg vs/\vs.size=F.length/\(∀i (H:i<F.length),∃u,vs[i]?=some u/\F[i].one=true/\kI S w φ ob F[i] u)/\∀c∈F,oA ob c:=by
 unfold Jy at h;split at h
 ·rename_i F;have J :∀(F:O D) (K:O AV->Prop),Ru (λc K=>K (AV.d c)) F K↔K (F.map .d):=by
   intro F;induction F with
   | nil=>intro K;simp[Ru]
   | cons c F ih=>intro K;simp[Ru,ih]
  rw[J] at h;cases M with|d _ _ M=>
  cases M with|agg _ vs f Q U V Y=>
  refine⟨_,vs,h,rfl,by simpa using Q,λi H=>⟨f i,U i (by simpa using H),?_,?_⟩,λc J=>?_⟩
  ·simpa[AV.one] using V i (by simpa using H)
  ·simpa using kI.d _ _ (Y i (by simpa using H))
  obtain⟨y,_,rfl⟩:=Xau.1 J;exact A0 ob y
 ·rename_i F;cases M with|agg _ vs f Q U V Y=>
  refine⟨F,vs,h,rfl,Q,λi H=>⟨f i,U i H,V i H,Y i H⟩,λc J r Z=>?_⟩;obtain⟨j,hj,rfl⟩:=Xai J;exact hc r (AV.z8 F j hj r Z)
 exact h.elim
def X8 (hT:xD P T){t off:Nat}{H:O AV}{vs:Array A}{K:AV->Prop}(hs:vs.size=H.length)(V :∀i (Y:i<H.length),∃u,vs[i]?=some u/\H[i].one=true/\kI S w φ ob H[i] u) (Z :∀c∈H,oA ob c) (h:fZ T t H off K) :∃J u,K J/\(part t vs off).run P w=.ok u w/\kI S w φ ob J u/\oA ob J:=by
 unfold fZ at h;cases F:(T.get t).kind.Cy with
 | none=>simp[F] at h
 | some q=>
  have M:=hT.of (t:=t) (by rw[F];simp);cases q with
  | true=>
   simp only[F,HJ,AI,Ge,HG,Nat.ble_eq,X14] at h;refine⟨_,_,h.2,KB M F,?_,JQ λc hm=>Z c (List.mem_of_mem_drop (Xdr hm))⟩;refine PE (by simp[hs];omega) λi Y=>?_;simp only[X15,X14] at Y;obtain⟨u,Q,h2,U⟩:=V (off+i) (by omega);refine⟨u,?_,?_,?_⟩
   ·rw[Array.getElem?_extract,Xa2 (by omega)];exact Q
   ·simpa[Xc1,Xbx] using h2
   simpa[Xc1,Xbx] using U
  | false=>
   simp only[F] at h;cases hg:H[off]? with
   | none=>simp[hg] at h
   | some x=>simp only[hg,BU] at h;obtain⟨p1,p2⟩:=X13.1 hg;obtain⟨d,hu,hd⟩:=M.kind.plain F;obtain⟨u,Q,h2,U⟩:=V off p1;exact⟨x,u,h,run_part_plain hu hd Q,p2▸U,Z x (Xbz hg)⟩
def XR (Q:xD P T){t i:Nat}{x:AV}{U:A}{K:AV->Prop}(V:kI S w φ ob x U)(Y:oA ob x)(h:XC T t i x K) : ∃H u,K H/\(Instr.field t U i).run P w=.ok u w/\kI S w φ ob H u/\oA ob H:=by
 unfold XC at h;split at h
 ·rename_i fs hk;have J:=(Q.of (t:=t) (by rw[hk];simp[TK.Cy])).kind;rw[hk] at J;split at h
  ·rename_i o s ft Z;obtain⟨cs,vs,hK,rfl,hs,hr,M⟩:=L9 V Y h;obtain⟨F,f,h1,h2,h3,h4,h5⟩:=Oo J Z;obtain⟨H,u,g1,g2,g3,g4⟩:=X8 Q hs hr M hK;refine⟨H,u,g1,?_,g3,g4⟩;simp only[Instr.field,Xb0,Xae h1,Xaw,h2,asAgg,Xdd,h3,h4,g2]
  exact h.elim
 exact h.elim
def Xl (Y:xD P T){t:Nat}{x y:AV}{vx vy:A}{K:AV->Prop}(hx:kI S w φ ob x vx)(hc:oA ob x)(hy:kI S w φ ob y vy)(h:Wp T t x y K) : ∃J u,K J/\(Instr.index t vx vy).run P w=.ok u w/\kI S w φ ob J u/\oA ob J:=by
 unfold Wp at h;split at h
 ·obtain rfl:=hy.int;rename_i k i;split at h
  ·rename_i s hk;have F:=(Y.of (t:=t) (by rw[hk];simp[TK.Cy])).kind;rw[hk] at F;simp only[zM] at F;obtain rfl:=hx.str;obtain⟨Z,c,a6,H⟩:=h;refine⟨_,.int .u8 c.toNat,H,?_,.d _ _ (.val _ rfl),A0 _ _⟩;have M:i.toNat<s.size:=by omega
   have:s[i.toNat]?=some c:=by
    have h1:s.toList.getD i.toNat 0=s[i.toNat]:=by
     rw[Xen];have hl:i.toNat<s.data.toList.length:=by rw[Xba];exact M
     rw[Xa8,X12 hl];rfl
    rw[<- a6,h1];exact getElem?_pos s i.toNat M
   simp only[Instr.index,asIntOf,Xb0,Xdd,Xaw,Xae F,Xa2 Z.1,this]
  ·rename_i n e hk;obtain⟨cs,vs,H,rfl,hs,hr,a7⟩:=L9 hx hc h;obtain⟨Z,H⟩:=H;split at H
   ·rename_i Q;obtain⟨a,ha,H⟩:=H;rw[BU] at H;have U:=Y.of (t:=e) (by rw[Q];simp);obtain⟨d,hu,hd⟩:=U.kind.plain Q;obtain⟨aa,z,V,a8,_⟩:=U.Dg;obtain⟨p1,p2⟩:=X13.1 ha;obtain⟨u,h1,h2,h3⟩:=hr _ p1;refine⟨a,u,H,?_,p2▸h3,a7 a (Xbz ha)⟩;have e1:(sizeOf e).run P w=.ok (T.get e).size w:=by simp[sizeOf,Xdx,V,a8]
    have e2:=run_part_plain (w:=w) hu hd h1;have e3:=Xae (PG Y hk) w;simp only[Instr.index,asIntOf,Xb0,Xdd,Xaw,e3,Xa2 Z,e1,e2]
   exact H.elim
  exact h.elim
 exact h.elim
end
end Go.AX
end
