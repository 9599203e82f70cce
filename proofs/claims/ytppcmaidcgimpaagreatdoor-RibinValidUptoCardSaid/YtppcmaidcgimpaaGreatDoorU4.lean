/-
  Texts of one proof, packed.
-/
import Derived.Test.YtppcmaidcgimpaaGreatDoorU3
import Derived.Laws.BytesArg
set_option linter.all false
set_option maxRecDepth 100000
set_option maxHeartbeats 4000000
open List renaming length_map→X10,length_append→X11,mem_singleton→X14,getElem?_eq_getElem→X15,getElem?_eq_some_iff→X16,length_drop→X17,length_take→X18,length_replicate→X20,length_set→X21
open Option.some renaming injEq→X24
open Prod.mk renaming injEq→X26
open Nat renaming eq_of_beq_eq_true→X30,mul_le_mul_right→X31,add_mul→X32
open List renaming range→Xbv
open Go.Builtin renaming zeroCells→Xao,append_→Xcg
open Go renaming run_underlying→Xa7,maxLen→Xb3,undef→Xck,typeInfo→Xer
open Go.Result renaming andThen_ok→Xah
open Go.Sem renaming run_bind→Xat,run_pure→Xcs
open Go.Instr renaming sureAddr→Xci
open Go.ByteArray renaming toList_eq→Xdl
open Go.Addr renaming add_lit→Xeg
section
namespace Go.AX
section
variable {P:Program} {T:TT} {E:Env} {w:B} {S:Sc} {φ:Nat->O (Nat×Rp)} {ob:Nat->O OB}
def Mem.drew (m:Mem E w S φ ob):Mem E w.drew S φ ob/\Kept w S φ ob w.drew S φ ob:=by have F:Kept w S φ ob w.drew S φ ob:=⟨λ_ _ h=>⟨h,rfl⟩,λr _=>.refl φ ob r,λ_ h=>h⟩;exact⟨⟨λr o h=>(m.obj r o h).wc F rfl (λ_ _ _=>⟨rfl,λ_ h=>h⟩) (m.xv r o h),m.inj,m.xv,m.sS,m.kS,m.bS,m.nS,m.fr,m.sz,m.ow,⟨m.os.1,m.os.2.1,m.os.2.2.1,m.os.2.2.2.imp_right λh=>Xb1 h (Nat.le_succ _)⟩⟩,F⟩
structure zB (S:Sc)(w:World)(sz:Nat)(ys:List D)(v:Value):Prop where
 w8 :∀i (hi:i<ys.length),ys[i].cells.length=sz
 na :∀i (hi:i<ys.length) j (hj:j<ys[i].cells.length),ys[i].cells[j].isAgg=false
 v:((∃a c,v=.slice a 0 c)/\ys=[]) \/∃b o cap,∃f:Nat->Nat->Value,v=.slice (some ⟨b,o,none⟩) ys.length cap/\(∀i j,i<ys.length->j<sz->cellAt w b (o+i*sz+j)=some (f i j))/\
  ∀i (hi:i<ys.length) j (hj:j<ys[i].cells.length),vm S w ys[i].cells[j] (f i j)
def Zz {obl:I (O OB)}(m:Mem E w S φ (λr=>obl.getD r none)){y:AV}{v:A}{K:Nat->I D->Prop}(J:gT S w φ (λr=>obl.getD r none) y v)(h:lB obl y K) : ∃sz ys,K sz ys/\zB S w sz ys v:=by
 unfold lB at h;split at h
 ·rename_i sz U;refine⟨sz,U,h,?_⟩;cases J with|d _ _ J=>
  cases J with
  | w9=>exact⟨λi F=>by simp at F,λi F=>by simp at F,.inl ⟨⟨_,_,rfl⟩,rfl⟩⟩
  | wE _ _ b o Q f hl hc w8 hS hn hr=>exact⟨w8,hn,.inr ⟨b,o,Q,f,rfl,λi j F V=>(hS i j F V).2,hr⟩⟩
 ·rename_i sz;refine⟨sz,[],h,?_⟩;cases J with|d _ _ J=>
  cases J with
  | nil=>exact⟨λi F=>by simp at F,λi F=>by simp at F,.inl ⟨⟨_,_,rfl⟩,rfl⟩⟩
 ·rename_i r n;rw[BF] at h;obtain⟨o,ho,h⟩:=h;cases o with
  | box=>simp at h
  | map=>simp at h
  | vz=>simp at h
  | gone=>simp at h
  | row e sz U Y=>
   simp only at h;refine⟨sz,U,h.2,?_⟩;obtain⟨g0,g1,g2,g3⟩:=m.obj r _ ho;cases J with|own _ _ _ k c a0 hv hk h1 hb=>
   obtain⟨_,h2⟩:=h1 e sz U Y ho;rcases h2 h.1 with ⟨M,a2,_,rfl⟩|⟨b,Q,M,rfl⟩
   ·exact⟨g1,g2,.inl ⟨⟨_,_,rfl⟩,Xar (by omega)⟩⟩
   rcases g3 with ⟨Z,_⟩|⟨b',H,vs,f,Z,f2,f3,f4,f5,f6,f7,f8⟩
   ·rw[Z] at M;simp at M
   rw[Z] at M;simp only[X24,X26] at M;obtain⟨rfl,rfl⟩:=M;exact⟨g1,g2,.inr ⟨b',H.2,H.1,f,by rw[h.1],λi j F V=>by rw[A3 f2,Xal];exact f6 i j F V,f7⟩⟩
 exact h.elim
def Pi {obl:I (O OB)}(m:Mem E w S φ (λr=>obl.getD r none)){y:AV}{v:A}{K:Nat->I D->Prop}(hy:gT S w φ (λr=>obl.getD r none) y v)(h:mW obl y K) : ∃sz ys,K sz ys/\zB S w sz ys v:=by
 unfold mW at h;split at h
 ·rename_i r a n k;rw[BF] at h;obtain⟨o,ho,h⟩:=h;cases o with
  | box=>simp at h
  | map=>simp at h
  | vz=>simp at h
  | gone=>simp at h
  | row e sz es Y=>
   simp only at h;obtain⟨hm,Q,U,hK⟩:=h;obtain⟨g0,g1,g2,g3⟩:=m.obj r _ ho;cases hy with|xn _ _ _ _ _ k c a0 hv hk h1=>
   obtain⟨q1,q2,_⟩:=(h1 e sz es Y ho).2 hm;have V:Q.length=n:=by rw[<- U];simp;omega
   have F :∀i (J:i<Q.length),Q[i]=es[a+i]'(by omega):=λi J=>by subst U;simp
   refine⟨sz,Q,hK,λi J=>by rw[F i J];exact g1 _ _,λi J j M=>by
    have:=F i J;simp only[this] at M⊢
    exact g2 _ _ j M,?_⟩
   rcases q2 with q2|⟨b,a1,c',q2,q3,_⟩
   ·have:Q=[]:=Xar (by omega);exact .inl ⟨⟨a0,c,by rw[hv,hk,q2]⟩,this⟩
   rcases g3 with ⟨Z,_⟩|⟨b',H,vs,f,Z,f2,f3,f4,f5,f6,f7,f8⟩
   ·rw[Z] at q2;simp at q2
   rw[Z] at q2;simp only[X24,X26] at q2;obtain⟨rfl,rfl⟩:=q2;refine .inr ⟨b',H.2+a*sz,c',λi j=>f (a+i) j,by rw[q3,V],λi j J M=>?_,λi J j M=>?_⟩
   ·rw[A3 f2,show H.2+a*sz+i*sz+j=H.2+((a+i)*sz+j) by rw[X32];omega];exact f6 (a+i) j (by omega) M
   have:=F i J;simp only[this] at M⊢;exact f7 (a+i) (by omega) j M
 exact Zz m hy h
def flat (n sz:Nat)(f:Nat->Nat->A):I A:=(Xbv (n*sz)).map λk=>f (k/sz) (k%sz)
def oE (n sz:Nat)(f:Nat->Nat->A):(flat n sz f).length=n*sz:=by simp[flat]
def flat_get {n sz:Nat}(f:Nat->Nat->A){i j:Nat}(H:i<n)(F:j<sz):(flat n sz f)[i*sz+j]?=some (f i j):=by
 have:i*sz+j<n*sz:=by have:(i+1)*sz<=n*sz:=X31 _ H;rw[X32] at this;omega
 have w8:0<sz:=by omega
 have J:(i*sz+j)/sz=i:=by rw[Xct,Nat.mul_add_div w8,Nat.div_eq_of_lt F,Xd4]
 have K:(i*sz+j)%sz=j:=by rw[Xct,Nat.mul_add_mod,Xb9 F]
 simp[flat,this,J,K]
def Ia {n sz:Nat}{f:Nat->Nat->A}{g:Nat->O A}(h :∀i j,i<n->j<sz->g (i*sz+j)=some (f i j)) :∀k v,(flat n sz f)[k]?=some v->g k=some v:=by
 intro k v H;obtain⟨F,rfl⟩:=X16.1 H;rw[oE] at F;have w8:0<sz:=by
  rcases Nat.eq_zero_or_pos sz with h|h
  ·subst h;simp at F
  exact h
 have J:k/sz<n:=Nat.div_lt_of_lt_mul (by rw[Xct];exact F);have K:k%sz<sz:=Nat.mod_lt _ w8;have M:k/sz*sz+k%sz=k:=by rw[Xct];exact Nat.div_add_mod k sz
 have:=h _ _ J K;rw[M] at this;simp[flat,this]
def zB.one {sz n:Nat}{ys:I D}{f:Nat->Nat->A}(M:n=ys.length)(Q :∀i (H:i<ys.length),ys[i].cells.length=sz)(U :∀i (H:i<ys.length) j (V:j<ys[i].cells.length),ys[i].cells[j].isAgg=false) (Y :∀i (H:i<ys.length) j (V:j<ys[i].cells.length),vm S w ys[i].cells[j] (f i j)) :∀u∈flat n sz f,u.oneCell'=true:=by
 intro u Z;obtain⟨k,F,rfl⟩:=Xad Z;rw[oE] at F;have w8:0<sz:=by
  rcases Nat.eq_zero_or_pos sz with h|h
  ·subst h;simp at F
  exact h
 have J:k/sz<ys.length:=by rw[<- M];exact Nat.div_lt_of_lt_mul (by rw[Xct];exact F)
 have K:k%sz<ys[k/sz].cells.length:=by rw[Q];exact Nat.mod_lt _ w8
 have:=(Y _ J _ K).one (U _ J _ K);simpa[flat] using this
def Vl {es ys:I D}{sz:Nat}(H :∀i (F:i<es.length),es[i].cells.length=sz)(J :∀i (F:i<ys.length),ys[i].cells.length=sz) : ∀i (F:i<(es++ys).length),(es++ys)[i].cells.length=sz:=by
 intro i F;rw[Xdk];split
 ·exact H _ _
 exact J _ _
def M6 {t ty e:Nat}(H:P.underlying t=some (.slice e)){i:TypeInfo}(J:P.info? e=some i)(a:O Addr)(n c:Nat)(K:n<=c){F:O Addr}{c2:Nat} : (Xcg #[t,t] ty #[.slice a n c,.slice F 0 c2]).run P w=.ok (.slice a n c) w:=by cases a<;>cases F<;>simp[Xcg,Xa7 H,sizeOf,Xer,J,Builtin.lenOf,K,Builtin.firstCells,storeCells,loadCells,loadCellsFrom]
def PZ (t ty e:TypeId)(i:TypeInfo)(Y:P.underlying t=some (.slice e))(Z:P.info? e=some i) (g o H J:Nat) (K:Array A) (hg:w.heap[g]?=some (.cells K e (0,0))) (a:Addr) (m c:Nat) (F:I A) (hl:F.length=m*i.size) (M :∀j u,F[j]?=some u->w.cell? (a.add j)=some u) (h1 :∀u∈F,u.oneCell'=true) (Q:H+m<=J) (U:o+H*i.size+F.length<=K.size) : (Xcg #[t,t] ty #[.slice (some ⟨g,o,none⟩) H J,.slice (some a) m c]).run P w = .ok (.slice (some ⟨g,o,none⟩) (H+m) J) (w.setRow g (K.toList.take (o+H*i.size)++F++K.toList.drop (o+H*i.size+F.length)).toArray):=by have hf:=run_firstCells_some (P:=P) w i.size m a m c F hl M;have V:=run_storeCells_at P g (o+H*i.size) e F 0 K w hg (by simpa using U) h1;simp only[Xd4] at V;simp[Xcg,Xa7 Y,sizeOf,Xer,Z,Builtin.lenOf,Q,hf,Xeg,V]
def Mem.fz (m:Mem E w S φ ob){r e sz:Nat}{es:I D}{f F:FZ}(J:ob r=some (.row e sz es f))(Z:F.frozen=f.frozen)(U :∀q∈F.refs,ob q≠none)(hl :∀i j q n,F=.lk i j q n->es.length<=i\/f=.lk i j q n) : Mem E w S φ (vd ob r (some (.row e sz es F)))/\Kept w S φ ob w S φ (vd ob r (some (.row e sz es F))):=by
 obtain⟨g0,g1,g2,g3⟩:=m.obj r _ J;have:=m.set r _ (.row e sz es F) w (φ r) J (λ_ _ _=>rfl) (Xam _) ⟨rfl,rfl,rfl,Xam _⟩ (λ_ _ _ _ _=>rfl) (.inl rfl) (.inl ⟨gM _ _ _,by simp[J,xA],λ⟨cs,h⟩=>by simp at h⟩) U λV=>by
  refine⟨g0,g1,g2,g3.imp (λh=>⟨by rw[gM];exact h.1,h.2⟩) ?_⟩;rintro⟨b,K,vs,g,f1,f2,f3,f4,f5,f6,f7,f8⟩;refine⟨b,K,vs,g,by rw[gM];exact f1,f2,f3,f4,f5,f6,λi H j M=>(f7 i H j M).mono V.k,λo h=>f8.1 o (by rw[Z] at h;exact h),λi j q n h H M=>?_⟩;rcases hl i j q n h with Y|Y
  ·omega
  exact V.ym (λq' Q=>U q' (by rw[h];simpa[AV.refs] using Q)) (f8.2 i j q n Y H M)
 have hu:vd φ r (φ r)=φ:=by funext i;by_cases H:i=r<;>simp[vd,H]
 rw[hu] at this;exact this
structure GD (P:Program)(w:World)(t u ty e:Nat)(z:Value)(i:TypeInfo)(sz n:Nat)(f:Nat->Nat->Value)(vy:Value):Prop where
 Mh:n=0->∀(a:Option Addr) (m c:Nat),m<=c->(Builtin.append_ #[t,u] ty #[.slice a m c,vy]).run P w=.ok (.slice a m c) w
 new:0<n->∀(a0:Option Addr),n*i.bytes<=281474976710656->(Builtin.append_ #[t,u] ty #[.slice a0 0 0,vy]).run P w =
  .ok (.slice (some ⟨w.heap.size,0,none⟩) n (grownCap w n 0 e)) (w.drew.alloc (.cells ((flat n sz f).toArray++Builtin.zeroCells z.cells (grownCap w n 0 e-n)) e))
 room:0<n->∀(g o sLen sCap:Nat) (cur:Array Value),w.heap[g]?=some (.cells cur e (0,0))->sLen+n<=sCap->o+sLen*sz+n*sz<=cur.size->
  (Builtin.append_ #[t,u] ty #[.slice (some ⟨g,o,none⟩) sLen sCap,vy]).run P w=.ok (.slice (some ⟨g,o,none⟩) (sLen+n) sCap) (w.setRow g (cur.toList.take (o+sLen*sz)++flat n sz f++cur.toList.drop (o+sLen*sz+(flat n sz f).length)).toArray)
 grow:0<n->∀(b:Addr) (sLen sCap:Nat) (olds:List Value),olds.length=sLen*sz->(∀j v,olds[j]?=some v->w.cell? (b.add j)=some v)->sCap<sLen+n->((sLen+n:Nat):Int)<=9223372036854775807->Builtin.nextslicecap (sLen+n) sCap*i.bytes<=281474976710656->
  (Builtin.append_ #[t,u] ty #[.slice (some b) sLen sCap,vy]).run P w=.ok (.slice (some ⟨w.heap.size,0,none⟩) (sLen+n) (grownCap w (sLen+n) sCap e))
   (w.drew.alloc (.cells (olds.toArray++(flat n sz f).toArray++Builtin.zeroCells z.cells (grownCap w (sLen+n) sCap e-(sLen+n))) e))
def P5 (m:Mem E w S φ ob){t u ty e:Nat}{al:TI}(be:yq P e al)(ht:P.underlying t=some (.slice e)){r sz:Nat}{es ys:I D}{frz fz':FZ}(ar:fz'.frozen=frz.frozen)(ho:ob r=some (.row e sz es frz)){vx vy:A} (hv:KH φ r es.length vx) {f:Nat->Nat->A} (af :∀i (J:i<ys.length),ys[i].cells.length=sz) (ag :∀i (J:i<ys.length) j (H:j<ys[i].cells.length),ys[i].cells[j].isAgg=false) (hr :∀i (J:i<ys.length) j (H:j<ys[i].cells.length),vm S w ys[i].cells[j] (f i j)) (hy :∀{i z},P.info? e=some i->i.zero=some z->GD P w t u ty e z i sz ys.length f vy) (a6 :∀i j q n,fz'=.lk i j q n->ob q≠none/\∃i0,i=es.length+i0/\(i0<ys.length->j<sz->gT S w φ ob (.own q n) (f i0 j))) (w8:al.size=sz) (bf:(es.length+ys.length)*al.bytes<=2^47) (a7:es.length+ys.length<=2^47) : ∃u' w' φ',(Xcg #[t,u] ty #[vx,vy]).run P w=.ok u' w'/\Mem E w' S φ' (vd ob r (some (.row e sz (es++ys) fz')))/\Kept w S φ ob w' S φ' (vd ob r (some (.row e sz (es++ys) fz')))/\KH φ' r (es++ys).length u':=by
 obtain⟨i,z,J,bg,bh,hz,bi,bw,_⟩:=be.wX;rw[w8] at bg;obtain⟨g0,g1,g2,g3⟩:=m.obj r _ ho;have bx:ob r≠none:=by simp[ho]
 have Q :∀q∈fz'.refs,ob q≠none:=by
  intro q hq;cases hz:fz' with
  | no=>simp[hz] at hq
  | wS=>simp[hz] at hq
  | lk i j q' n=>simp only[hz,FZ.yh,X14] at hq;rw[hq];exact (a6 _ _ _ _ hz).1
 have ah :∀(h:ys=[]),Mem E w S φ (vd ob r (some (.row e sz (es++ys) fz')))/\Kept w S φ ob w S φ (vd ob r (some (.row e sz (es++ys) fz'))):=by intro h;subst h;rw[Xaj];refine m.fz ho ar Q λi j q n h=>.inl ?_;obtain⟨_,i0,h1,_⟩:=a6 i j q n h;omega
 have bj:(2:Nat)^47=140737488355328:=by decide
 rw[bj] at bf a7;have Y:(es.length+ys.length)*i.bytes<=140737488355328:=by rw[bh];omega
 have au :∀(c:Nat),grownCap w (es.length+ys.length) c e<=Xb3:=λc=>grownCap_le_maxLen w _ c e (by simp only[Xb3];omega);have fresh :∀(xs:I A) (c:Nat) (hc:c<es.length+ys.length) (bk:es.length<=c) (f g:Nat->Nat->A) (U:xs=flat es.length sz g)
   (hg :∀i (J:i<es.length) j (H:j<es[i].cells.length),vm S w es[i].cells[j] (g i j))
   (hf :∀i (J:i<ys.length) j (H:j<ys[i].cells.length),vm S w ys[i].cells[j] (f i j))
   (ax :∀i j q n,fz'=.lk i j q n->i<(es++ys).length->j<sz->gT S w φ ob (.own q n) (f (i-es.length) j)),
   ∃φ',Mem E (w.drew.alloc (.cells (xs.toArray++(flat ys.length sz f).toArray++Xao z.cells (grownCap w (es.length+ys.length) c e-(es.length+ys.length))) e)) S φ' (vd ob r (some (.row e sz (es++ys) fz')))/\
    Kept w S φ ob (w.drew.alloc (.cells (xs.toArray++(flat ys.length sz f).toArray++Xao z.cells (grownCap w (es.length+ys.length) c e-(es.length+ys.length))) e)) S φ' (vd ob r (some (.row e sz (es++ys) fz')))/\
    KH φ' r (es++ys).length (.slice (some ⟨w.heap.size,0,none⟩) (es.length+ys.length) (grownCap w (es.length+ys.length) c e)):=by
  intro xs c hc bk f g U hg hf ax;have an:=grownCap_ge w (es.length+ys.length) c e;obtain⟨md,kd⟩:=m.drew;generalize ae:w.drew.alloc (.cells (xs.toArray++(flat ys.length sz f).toArray++Xao z.cells (grownCap w (es.length+ys.length) c e-(es.length+ys.length))) e)=w';have ay:w'.heap[w.heap.size]?=some (.cells (xs.toArray++(flat ys.length sz f).toArray++Xao z.cells (grownCap w (es.length+ys.length) c e-(es.length+ys.length))) e (0,0)):=by rw[<- ae];exact heap_alloc_new w.drew _
  have ai :∀k,k<w.heap.size->w'.heap[k]?=w.heap[k]?:=λk hk=>by rw[<- ae];exact Dn w.drew _ hk
  have bl:w'.heap.size=w.heap.size+1:=by rw[<- ae];simp
  have az:((xs.toArray++(flat ys.length sz f).toArray++Xao z.cells (grownCap w (es.length+ys.length) c e-(es.length+ys.length)))).size=grownCap w (es.length+ys.length) c e*sz:=by simp only[Array.size_append,List.size_toArray,size_zeroCells,bi,U,oE,w8];rw[<- X32,<- X32];congr 1;omega
  obtain⟨m',k'⟩:=m.set r _ (.row e sz (es++ys) fz') w' (some (w.heap.size,(grownCap w (es.length+ys.length) c e,0))) ho (λk hk _=>ai k hk) (by omega) (by rw[<- ae];exact⟨rfl,rfl,rfl,Nat.le_succ _⟩)
   (λb' c' o' bz hS=>C3 (ai b' (m.bS b' o' hS)) o') (.inr ⟨_,_,rfl,Xam _,by omega⟩)
   (.inr <| .inl ⟨e,sz,es,frz,es++ys,fz',ho,gM _ _ _,by simp,λhh=>by
    have bm:ys=[]:=by simpa using hh
    subst bm;simp at hc
    omega⟩) (λr' ao=>Q r' ao) (λhk=>by
    refine⟨g0,Vl g1 af,λi J j H=>?_,.inr ⟨w.heap.size,(grownCap w (es.length+ys.length) c e,0),_,λi j=>if i<es.length then g i j else f (i-es.length) j,gM _ _ _,ay,by simpa using an,au c,by rw[az];exact Nat.le_of_eq (Xbk _),λi j J H=>?_,λi J j H=>?_,λo' _ a8=>?_,λi j q n hq J H=>?_⟩⟩
    ·have e1:(es++ys)[i]=if h:i<es.length then es[i] else ys[i-es.length]'(by simp at J;omega):=Xdk ..;simp only[e1] at H⊢;split at H
     ·rename_i h;simp only[h,dif_pos];exact g2 i h j H
     rename_i h;simp only[h,dif_neg,not_false_eq_true];exact ag _ _ j H
    ·simp only[X11] at J;simp only[Xbk]
     rw[Xco (by
      simp only[Array.size_append,List.size_toArray,U,oE,<- X32];have:(i+1)*sz<=(es.length+ys.length)*sz:=X31 _ J;rw[X32] at this
      omega)]
     by_cases h:i<es.length
     ·simp only[Wr h]
      rw[Xco (by
       simp only[List.size_toArray,U,oE];have:(i+1)*sz<=es.length*sz:=X31 _ h;rw[X32] at this
       omega)]
      simp only[U];simpa using flat_get g h H
     have b0:es.length*sz<=i*sz:=X31 _ (by omega);simp only[Wm h];rw[Array.getElem?_append_right (by simp only[List.size_toArray,U,oE];omega)];simp only[List.size_toArray,U,oE];have e2:i*sz+j-es.length*sz=(i-es.length)*sz+j:=by rw[Nat.sub_mul];omega
     rw[e2];simpa using flat_get f (show i-es.length<ys.length by omega) H
    ·have e1:(es++ys)[i]=if h:i<es.length then es[i] else ys[i-es.length]'(by simp at J;omega):=Xdk ..;simp only[e1] at H⊢;split at H
     ·rename_i h;simp only[h,dif_pos,Xeq];exact (hg i h j H).mono hk.k
     rename_i h;simp only[h,dif_neg,not_false_eq_true,Xe7];exact (hf _ _ j H).mono hk.k
    ·exact absurd (m.bS _ _ a8) (Nat.lt_irrefl _)
    obtain⟨h1,i0,h2,_⟩:=a6 i j q n hq;simp only[Wm (show ¬ i<es.length by omega)]
    exact hk.ym (λq' aa=>by simp only[AV.refs,X14] at aa;rw[aa];exact h1) (ax i j q n hq J H))
  exact⟨_,m',k',.inr ⟨_,_,gM _ _ _,by simp⟩⟩
 have ap :∀i j q n,fz'=.lk i j q n->i<(es++ys).length->j<sz->gT S w φ ob (.own q n) (f (i-es.length) j):=by
  intro i j q n hq J H;obtain⟨_,i0,h2,h3⟩:=a6 i j q n hq;simp only[X11] at J;have e:i-es.length=i0:=by omega
  rw[e];exact h3 (by omega) H
 have hR:=hy J hz;by_cases Z:ys=[]
 ·refine⟨vx,w,φ,?_,(ah Z).1,(ah Z).2,?_⟩
  ·rcases hv with ⟨a1,a2,a0,rfl⟩|⟨b1,F,a1,rfl⟩
   ·exact hR.Mh (by rw[Z];rfl) a0 0 0 (Xam _)
   rcases g3 with ⟨f1,_⟩|⟨b',ba,K,g,f1,f2,f3,_⟩
   ·rw[a1] at f1;simp at f1
   rw[a1] at f1;simp only[X24,X26] at f1;obtain⟨rfl,rfl⟩:=f1;exact hR.Mh (by rw[Z];rfl) _ _ _ f3
  rw[Z,Xaj];exact hv
 have ab:0<ys.length:=Xch.2 Z;rcases hv with ⟨a1,a2,a0,rfl⟩|⟨b1,F,a1,rfl⟩
 ·
  have bb:es=[]:=Xar a2;have bn:ys.length*i.bytes<=281474976710656:=by rw[a2,Xbk] at Y;omega
  have M:=hR.new ab a0 bn;obtain⟨φ',h1,h2,h3⟩:=fresh [] 0 (by omega) (by omega) f (λ_ _=>Xck) (by simp[bb,flat]) (λi J=>by simp[bb] at J) hr ap;simp only[a2,Xbk] at h1 h2 h3;exact⟨_,_,φ',M,by simpa using h1,by simpa using h2,h3⟩
 rcases g3 with ⟨f1,_⟩|⟨b',ba,K,g,f1,f2,f3,f4,f5,f6,f7,f8⟩
 ·rw[a1] at f1;simp at f1
 rw[a1] at f1;simp only[X24,X26] at f1;obtain⟨rfl,rfl⟩:=f1;by_cases V:es.length+ys.length<=F.1
 ·have b0:(es.length+ys.length)*sz<=F.1*sz:=X31 _ V;rw[X32] at b0;have M:=hR.room ab b1 F.2 es.length F.1 K f2 V (by omega);have bo:(K.toList.take (F.2+es.length*sz)++flat ys.length sz f++K.toList.drop (F.2+es.length*sz+(flat ys.length sz f).length))=B6 K.toList (F.2+es.length*sz) (flat ys.length sz f):=rfl;rw[bo] at M;have aj:F.2+es.length*sz+(flat ys.length sz f).length<=K.toList.length:=by rw[oE];simp;omega
  obtain⟨q1,q2,q3⟩:=KX w b1 (B6 K.toList (F.2+es.length*sz) (flat ys.length sz f)).toArray;have hh:=setRow_heap w b1 K (B6 K.toList (F.2+es.length*sz) (flat ys.length sz f)).toArray e (0,0) f2;have ak :∀k,(B6 K.toList (F.2+es.length*sz) (flat ys.length sz f)).toArray[k]?=if F.2+es.length*sz<=k/\k<F.2+es.length*sz+ys.length*sz then (flat ys.length sz f)[k-(F.2+es.length*sz)]? else K[k]?:=by intro k;have:=FW K.toList (F.2+es.length*sz) (flat ys.length sz f) aj k;rw[oE] at this;simpa using this
  have bp :∀o',S b1 o'->o'<F.2+es.length*sz:=by intro o' a8;refine Xby λan=>f8.1 o' ?_ a8;cases frz<;>simp;exact an
  obtain⟨m',k'⟩:=m.set r _ (.row e sz (es++ys) fz') (w.setRow b1 (B6 K.toList (F.2+es.length*sz) (flat ys.length sz f)).toArray) (φ r) ho (λk hk bq=>q1 k λe=>bq F (by rw[e];exact a1)) (by omega) q3
   (λb2 c2 o2 a7 br=>by
    rw[a1] at a7;simp only[X24,X26] at a7;obtain⟨rfl,rfl⟩:=a7
    rw[A3 hh,A3 f2,ak,Wm (by have:=bp o2 br;omega)]) (.inl rfl)
   (.inr <| .inl ⟨e,sz,es,frz,es++ys,fz',ho,gM _ _ _,by simp,λ_=>gM _ _ _⟩) (λr' ao=>Q r' ao) (λhk=>by
    refine⟨g0,Vl g1 af,λi J j H=>?_,.inr ⟨b1,F,_,λi j=>if i<es.length then g i j else f (i-es.length) j,by rw[gM];exact a1,hh,by simpa using V,f4,?_,λi j J H=>?_,λi J j H=>?_,λo' bc a8=>?_,λi j q n hq J H=>?_⟩⟩
    ·have e1:(es++ys)[i]=if h:i<es.length then es[i] else ys[i-es.length]'(by simp at J;omega):=Xdk ..;simp only[e1] at H⊢;split at H
     ·rename_i h;simp only[h,dif_pos];exact g2 i h j H
     rename_i h;simp only[h,dif_neg,not_false_eq_true];exact ag _ _ j H
    ·rw[List.size_toArray,CG _ _ _ aj];simpa using f5
    ·simp only[X11] at J;rw[ak];by_cases h:i<es.length
     ·have:(i+1)*sz<=es.length*sz:=X31 _ h;rw[X32] at this;simp only[Wr h];rw[Wm (by omega)];exact f6 i j h H
     have bu:es.length*sz<=i*sz:=X31 _ (by omega);have bd:(i+1)*sz<=(es.length+ys.length)*sz:=X31 _ J;rw[X32,X32] at bd;simp only[Wm h];rw[Wr (by omega)];have e2:F.2+(i*sz+j)-(F.2+es.length*sz)=(i-es.length)*sz+j:=by rw[Nat.sub_mul];omega
     rw[e2];exact flat_get f (show i-es.length<ys.length by omega) H
    ·have e1:(es++ys)[i]=if h:i<es.length then es[i] else ys[i-es.length]'(by simp at J;omega):=Xdk ..;simp only[e1] at H⊢;split at H
     ·rename_i h;simp only[h,dif_pos,Xeq];exact (f7 i h j H).mono hk.k
     rename_i h;simp only[h,dif_neg,not_false_eq_true,Xe7];exact (hr _ _ j H).mono hk.k
    ·refine f8.1 o' ?_ a8;rw[ar] at bc;cases frz with
     | no=>simp
     | lk=>simp
     | wS=>simp only[FZ.xQ,Xeq,X11,X32] at bc⊢;omega
    obtain⟨h1,i0,h2,_⟩:=a6 i j q n hq;simp only[Wm (show ¬ i<es.length by omega)]
    exact hk.ym (λq' aa=>by simp only[AV.refs,X14] at aa;rw[aa];exact h1) (ap i j q n hq J H))
  have hu:vd φ r (φ r)=φ:=by funext i;by_cases J:i=r<;>simp[vd,J]
  rw[hu] at m' k';exact⟨_,_,φ,M,m',k',.inr ⟨_,_,a1,by simp⟩⟩
 have aq :∀j v,(flat es.length sz g)[j]?=some v->w.cell? ((⟨b1,F.2,none⟩:Addr).add j)=some v:=
  Ia (g:=λk=>w.cell? ((⟨b1,F.2,none⟩:Addr).add k)) λi j J H=>by rw[Addr.wB];have:=f6 i j J H;rw[<- A3 f2] at this;exact this
 have M:=hR.grow ab ⟨b1,F.2,none⟩ es.length F.1 (flat es.length sz g) (oE _ _ _) aq (by omega) (by omega) (growslice_fits (by omega) Y);obtain⟨φ',h1,h2,h3⟩:=fresh (flat es.length sz g) F.1 (by omega) f3 f g rfl f7 hr ap;exact⟨_,_,φ',M,h1,h2,h3⟩
def NU (m:Mem E w S φ ob){t ty e:Nat}{a1:TI}(a6:yq P e a1)(V:P.underlying t=some (.slice e)){r sz:Nat}{es ys:I D}{frz fz':FZ}(ab:fz'.frozen=frz.frozen)(ho:ob r=some (.row e sz es frz)){vx vy:A} (hv:KH φ r es.length vx) (hy:zB S w sz ys vy) (ae :∀i j q n,fz'=.lk i j q n->ob q≠none/\∃Y,i=es.length+Y/\∀b o l c u,vy=.slice (some ⟨b,o,none⟩) l c->Y<l->j<sz->cellAt w b (o+(Y*sz+j))=some u->gT S w φ ob (.own q n) u) (w8:a1.size=sz) (af:(es.length+ys.length)*a1.bytes<=2^47) (ag:es.length+ys.length<=2^47) : ∃u w' φ',(Xcg #[t,t] ty #[vx,vy]).run P w=.ok u w'/\Mem E w' S φ' (vd ob r (some (.row e sz (es++ys) fz')))/\Kept w S φ ob w' S φ' (vd ob r (some (.row e sz (es++ys) fz')))/\KH φ' r (es++ys).length u:=by
 rcases hy.v with ⟨⟨a2,c2,rfl⟩,al⟩|⟨b,o,U,f,rfl,hc,hr⟩
 ·have h0:ys.length=0:=by rw[al];rfl
  refine P5 (f:=λ_ _=>Xck) m a6 V ab ho hv hy.w8 hy.na (λi K=>by omega) (λ{i z} K hz=>⟨λ_ a m c a7=>M6 V K a m c a7,λh=>by omega,λh=>by omega,λh=>by omega⟩) (λi j q n h=>?_) w8 af ag;obtain⟨l1,Y,l2,_⟩:=ae i j q n h;exact⟨l1,Y,l2,λh=>by omega⟩
 refine P5 (f:=f) m a6 V ab ho hv hy.w8 hy.na hr (λ{i z} K hz=>?_) (λi j q n h=>?_) w8 af ag
 ·obtain⟨i',z',ah,H,aq,ar,au,ax,_⟩:=a6.wX;rw[K] at ah;cases ah;rw[w8] at H;have F :∀j v,(flat ys.length sz f)[j]?=some v->w.cell? ((⟨b,o,none⟩:Addr).add j)=some v:=
   Ia (g:=λk=>w.cell? ((⟨b,o,none⟩:Addr).add k)) λi j K hj=>by rw[Addr.wB];have:=hc i j K hj;rw[Xal] at this;exact this
  refine⟨λh0 a m c a7=>by rw[h0];exact M6 V K a m c a7,λJ a0 ai=>?_,λJ g o' M Q an hg a8 Z=>?_,λJ q M Q aj ao aa hg ap Z=>?_⟩
  ·cases a0 with
   | none=>exact run_append_nil (P:=P) w t ty e i z V K hz ⟨b,o,none⟩ ys.length U (flat ys.length sz f) (by rw[oE,H]) F J (by omega) ai
   | some q=>
    have h:=run_append_grow (P:=P) w t ty e i z V K hz q 0 0 [] (by simp) (λj v h=>by simp at h) ⟨b,o,none⟩ ys.length U (flat ys.length sz f) (by rw[oE,H]) F (by omega) (by omega)
     (by rw[Xbk,nextslicecap_zero J];exact ai)
    simpa using h
  ·have h:=PZ (P:=P) (w:=w) t ty e i V K g o' M Q an hg ⟨b,o,none⟩ ys.length U (flat ys.length sz f) (by rw[oE,H]) F (zB.one rfl hy.w8 hy.na hr) a8 (by rw[H,oE];omega);rw[H] at h;exact h
  exact run_append_grow (P:=P) w t ty e i z V K hz q M Q aj (by rw[H];exact ao) aa ⟨b,o,none⟩ ys.length U (flat ys.length sz f) (by rw[oE,H]) F hg ap Z
 obtain⟨l1,Y,l2,l3⟩:=ae i j q n h;exact⟨l1,Y,l2,λak hj=>l3 b o _ _ _ rfl ak hj (by rw[<- Xal];exact hc Y j ak hj)⟩
def yy (l:I UInt8):strOfNums (l.map λc=>(c.toNat:Int))=⟨l.toArray⟩:=by
 have:(strOfNums (l.map λc=>(c.toNat:Int))).data.toList=l:=by
  rw[strOfNums_data,List.map_map];conv=>rhs;rw[<- List.map_id l]
  refine List.map_congr_left λc _=>?_;simp
 cases h:strOfNums (l.map λc=>(c.toNat:Int)) with
 | mk d=>rw[h] at this;simp only at this;congr 1;exact Array.toList_inj.1 (by simpa using this)
def Zu {obl:I (O OB)}(hT:ur P T)(m:Mem E w S φ (λr=>obl.getD r none)){H dst:Nat}{x:AV}{vx:A}{K:AV->Prop}(hx:gT S w φ (λr=>obl.getD r none) x vx)(h:fo T H dst x obl K) : HQ K ((convert H dst vx).run P w) w:=by
 unfold fo at h;rw[AK] at h;obtain⟨Z,h⟩:=h;have a1:(T.get H).kind.wL≠none:=λQ=>by simp[Q] at Z
 have U:=hT.of a1;obtain⟨ds,a6⟩ :∃d,P.underlying H=some d:=by
  cases Q:(T.get H).kind.wL with
  | none=>exact absurd Q a1
  | some q=>cases q with
   | true=>obtain⟨d,hd,_⟩:=U.kind.row Q;exact⟨d,hd⟩
   | false=>obtain⟨d,hd,_⟩:=U.kind.plain Q;exact⟨d,hd⟩
 have ab:(T.get dst).kind.wL≠none:=by intro Q;cases hk:(T.get dst).kind<;>simp[hk,TK.wL] at Q;simp[hk] at h
 have F:=(hT.of ab).kind;split at h
 ·rename_i k _ n hk;rw[hk] at F;obtain rfl:=hx.int;obtain⟨r,rfl,Y⟩:=h;refine⟨_,rfl,Y,?_⟩;simp only[wb] at F;simp[convert,Xa7 a6,Xa7 F,Conv.intToInt]
 ·rename_i s hk;rw[hk] at F;obtain rfl:=hx.str;refine⟨_,rfl,h,?_⟩;simp only[wb] at F;simp only[convert,Xat,Xa7 a6,Xa7 F,Xah];cases ds<;>rfl
 ·rename_i hk _;rw[hk] at F;simp only[wb] at F;split at h
  ·rename_i e ae;have J:=U.kind;rw[ae] at J;simp only[wb] at J;split at h
   ·rename_i a7;have af:(T.get e).kind.wL≠none:=by rw[a7];simp[TK.wL]
    have M:=(hT.of af).kind;rw[a7] at M;simp only[wb] at M;rw[AK] at h;obtain⟨_,h⟩:=h;obtain⟨sz,ys,Y,ag⟩:=Pi m hx h;rw[AK] at Y;obtain⟨w8,l,hl,Y⟩:=Y;have a8:sz=1:=X30 w8;subst a8 hl;refine⟨_,rfl,Y,?_⟩;rcases ag.v with ⟨⟨a2,c2,rfl⟩,h0⟩|⟨b,o,ah,f,rfl,Q,hr⟩
    ·have:l=[]:=by simpa using h0
     subst this;cases a2 with
     | none=>rw[run_convert_bytes_nil w H e J M 0 c2 dst F];rfl
     | some a2=>rw[run_convert_bytes_string w H dst e _ 0 c2 J M F];simp[Conv.bytesToString,loadCells,loadCellsFrom];rfl
    rw[run_convert_bytes_arg w H e J M b o _ ah (l.map λc=>(c.toNat:Int)) (by simp) (λi hi=>?_) dst F,yy];have V:i<(l.map λc=>(D.u c.toNat:D)).length:=hi;have h1:=Q i 0 V (by omega);have h2:=hr i V 0 (by simp[D.cells]);simp only[Nat.mul_one,Xd4] at h1;have aa:i<l.length:=by simpa using V
    simp only[Xb2,D.cells,Xaz] at h2;have h3:w.cell? ⟨b,o+i,none⟩=some (f i 0):=h1;rw[h3];generalize f i 0=u at h2⊢;cases h2 with|val _ _=>simp[aa]
   exact h.elim
  exact h.elim
 exact h.elim
def QZ {t i o s J:Nat}{fs:I (Nat×Nat×Nat)}(h:wb P t (.struct fs))(K:fs[i]?=some (o,s,J)) : ∃F f,P.underlying t=some (.struct F)/\F[i]?=some f/\f.offset=o/\f.type=J/\(P.info? f.type).map (·.size)=some s:=by
 obtain⟨_,_,F,M,Q,_⟩:=h;have:=Xa4 (λl=>l[i]?) Q;simp only[Xd3,K,Xbf] at this;cases H:F[i]? with
 | none=>simp[H] at this
 | some f=>simp[H] at this;exact⟨F,f,M,H,this.1,this.2.2,by simpa using this.2.1⟩
def Nr {t i o s Q:Nat}{fs:I (Nat×Nat×Nat)}(h:wb P t (.struct fs))(U:fs[i]?=some (o,s,Q))(hs:0<s)(b off:Nat) : (Instr.fieldAt t (.pointer (some ⟨b,off,none⟩)) i).run P w=.ok (.pointer (some ⟨b,off+o,none⟩)) w:=by
 obtain⟨F,f,V,Y,Z,h4,M⟩:=QZ h U;cases H:P.info? f.type with
 | none=>simp[H] at M
 | some J=>
  have w8:J.size=s:=by simpa[H] using M
  have K:¬ s=0:=by omega
  simp[Instr.fieldAt,Xa7 V,Y,Xci,fieldPlace,sizeOf,Xer,H,w8,K,Z,Addr.wB]
def UP (M:ur P T){t i:Nat}{K:Nat->Nat->Nat->Prop}(h:QK T t i K) :∃o s H fs,K o s H/\wb P t (.struct fs)/\fs[i]?=some (o,s,H)/\0<s:=by
 unfold QK at h;split at h
 ·rename_i fs hk;have J:(T.get t).kind.wL≠none:=by rw[hk];simp[TK.wL]
  have F:=(M.of J).kind;rw[hk] at F;split at h
  ·rename_i o s H Q;split at h
   ·exact h.elim
   rename_i U;exact⟨o,U+1,H,fs,h,F,Q,Nat.succ_pos _⟩
  exact h.elim
 exact h.elim
def Hh {t e:Nat}(F:P.underlying t=some (.slice e)){i:TypeInfo}(H:P.info? e=some i)(b o n c:Nat)(k:IntKind)(j:Int)(h:0<=j/\j<n) : (Instr.indexAt t (.slice (some ⟨b,o,none⟩) n c) (.int k j)).run P w=.ok (.pointer (some ⟨b,o+j.toNat*i.size,none⟩)) w:=by simp[Instr.indexAt,Xa7 F,asIntOf,h,sizeOf,Xer,H,Addr.wB]
def NI {t e m:Nat}(F:P.underlying t=some (.array m e)){i:TypeInfo}(H:P.info? e=some i)(b o:Nat)(k:IntKind)(j:Int)(h:0<=j/\j<m) : (Instr.indexAt t (.pointer (some ⟨b,o,none⟩)) (.int k j)).run P w=.ok (.pointer (some ⟨b,o+j.toNat*i.size,none⟩)) w:=by simp[Instr.indexAt,Xa7 F,asIntOf,Xci,h,sizeOf,Xer,H,Addr.wB]
def BS {t:Nat}(h:Bc T t=true):(T.get t).kind.wL≠none:=by intro F;simp[Bc,F] at h
def Bm (F:ur P T){t e:Nat}(h:(T.get t).kind=.slice e):P.underlying t=some (.slice e):=by have:=(F.of (t:=t) (by rw[h];simp[TK.wL])).kind;rwa [h] at this
def Qz (F:ur P T){t n e:Nat}(h:(T.get t).kind=.arr n e):P.underlying t=some (.array n e):=by have:=(F.of (t:=t) (by rw[h];simp[TK.wL])).kind;rwa [h] at this
def Pv {obl:I (O OB)}(hT:ur P T){t:Nat}{x y:AV}{vx vy:A}{K:AV->Prop}(hx:gT S w φ (λr=>obl.getD r none) x vx) (a7:iA (λr=>obl.getD r none) x) (hy:gT S w φ (λr=>obl.getD r none) y vy) (h:KU T t x y obl K) : ∃out u,K out/\(Instr.indexAt t vx vy).run P w=.ok u w/\gT S w φ (λr=>obl.getD r none) out u/\iA (λr=>obl.getD r none) out:=by
 unfold KU at h;split at h
 ·obtain rfl:=hy.int;rename_i k i;split at h
  ·rename_i e sz es hk;simp only[AK] at h;obtain⟨J,w8,hb,v,hv,al,hK⟩:=h;have M:=hT.of (BS J);obtain⟨Y,z,F,Q,_⟩:=M.wX;have Z:sz=(T.get e).size:=X30 w8;cases hx with|d _ _ hx=>
   cases hx with
   | w9=>simp at hb;omega
   | wE _ _ b o a6 f hl hc ae hS hn hr=>
    have a8:i.toNat<es.length:=by omega
    have ai:v=es[i.toNat]:=by rw[<- hv];simp[a8]
    subst ai;refine⟨_,_,hK,Hh (Bm hT hk) F b o _ a6 k i hb,?_,λr hr=>by simp[AV.refs] at hr⟩;rw[Q,<- Z];exact .wU _ b _ (f i.toNat) (λj hj=>hS i.toNat j a8 (by rw[ae] at hj;exact hj)) (λj hj=>hn _ a8 j hj) λj hj=>hr _ a8 j hj
  ·rename_i e r n hk;rw[BF] at h;obtain⟨o,ho,h⟩:=h;cases o with
   | box cs=>
    simp only[AK] at h;obtain⟨J,w8,rfl,hK⟩:=h;have M:=hT.of (BS J);obtain⟨Y,z,F,Q,_⟩:=M.wX;cases hx with|own _ _ _ kk c a0 hv J h1 V=>
    obtain⟨rfl,b,c',a1,aj⟩:=V cs ho;rw[aj];refine⟨_,_,hK,Hh (Bm hT hk) F b 0 1 1 k 0 (by omega),?_,λr' U=>a7 r' (by simpa[AV.refs] using U)⟩;have e0:(0:Nat)+(0:Int).toNat*Y.size=0:=by simp
    rw[e0];refine .ref r 0 b c' a1 λe2 af ag ah H=>?_;rw[ho] at H;simp at H
   | map=>simp at h
   | vz=>simp at h
   | gone=>simp at h
   | row e' sz es ak=>
    simp only[AK] at h;obtain⟨J,w8,hn,hb,hK⟩:=h;have M:=hT.of (BS J);obtain⟨Y,z,F,Q,_⟩:=M.wX;have Z:sz=(T.get e).size:=X30 w8;cases hx with|own _ _ _ kk c a0 hv J h1 V=>
    rcases (h1 e' sz es ak ho).2 hn with ⟨a1,a2,_,rfl⟩|⟨b,a6,a1,rfl⟩
    ·omega
    refine⟨_,_,hK,Hh (Bm hT hk) F b a6.2 n a6.1 k i (by omega),?_,λr' U=>a7 r' (by simpa[AV.refs] using U)⟩;rw[Q,<- Z,<- Xd4 (i.toNat*sz)];refine .wu r n i.toNat 0 _ (λe2 af ag ah H=>?_) (λcs H=>by rw[ho] at H;simp at H) ⟨_,rfl⟩;rw[ho] at H;simp only[X24,OB.row.injEq] at H;obtain⟨rfl,rfl,rfl,rfl⟩:=H;exact⟨by omega,λ_=>⟨by omega,b,a6,a1,rfl⟩⟩
  ·rename_i n e r off hk;simp only[AK] at h;obtain⟨J,_,⟨hb,hK⟩|⟨aa,hb,j,hj,hK⟩⟩:=h;rotate_left
   ·have M:=hT.of (BS J);obtain⟨Y,z,F,Q,_⟩:=M.wX;have aa:=X30 aa;cases hx with|ref _ _ b c ab V=>
    refine⟨_,_,hK,NI (Qz hT hk) F b off k i hb,?_,λr' U=>a7 r' (by simpa[AV.refs] using U)⟩;rw[Q,aa,Nat.mul_one,hj];exact .wu r n j off _ (λe2 af ag f2 H=>absurd H (V _ _ _ _)) (λcs H=>⟨b,c,ab,rfl⟩) ⟨_,rfl⟩
   have M:=hT.of (BS J);obtain⟨Y,z,F,Q,_⟩:=M.wX;cases hx with|ref _ _ b c ab V=>
   refine⟨_,_,hK,NI (Qz hT hk) F b off k i hb,?_,λr' U=>a7 r' (by simpa[AV.refs] using U)⟩;rw[Q];exact .ref r _ b c ab V
  exact h.elim
 exact h.elim
def Rm {obl:I (O OB)}(hT:ur P T){t r a n m:Nat}{y:AV}{vx vy:A}{K:AV->Prop}(hx:gT S w φ (λr=>obl.getD r none) (.xn r a n m) vx) (Q:iA (λr=>obl.getD r none) (.xn r a n m)) (hy:gT S w φ (λr=>obl.getD r none) y vy) (h:MR T t r a n m y obl K) : ∃out u,K out/\(Instr.indexAt t vx vy).run P w=.ok u w/\gT S w φ (λr=>obl.getD r none) out u/\iA (λr=>obl.getD r none) out:=by
 unfold MR at h;split at h
 ·obtain rfl:=hy.int;rename_i kk i;split at h
  ·rename_i e hk;rw[BF] at h;obtain⟨o,U,h⟩:=h;cases o with
   | box=>simp at h
   | map=>simp at h
   | vz=>simp at h
   | gone=>simp at h
   | row e' sz es V=>
    simp only[AK] at h;obtain⟨Y,w8,hn,hb,j,hj,hK⟩:=h;have Z:=hT.of (BS Y);obtain⟨a1,z,J,a6,_⟩:=Z.wX;have M:sz=(T.get e).size:=X30 w8;cases hx with|xn _ _ _ _ _ k c a0 hv a8 h1=>
    obtain⟨q1,q2,_⟩:=(h1 e' sz es V U).2 hn;rcases q2 with q2|⟨b,H,c',q2,q3,_⟩
    ·omega
    rw[q3];refine⟨_,_,hK,Hh (Bm hT hk) J b (H.2+a*sz) n c' kk i (by omega),?_,λr' a7=>Q r' (by simpa[AV.refs] using a7)⟩;have e1:H.2+a*sz+i.toNat*a1.size=H.2+(j*sz+0):=by rw[a6,<- M,Xal,<- X32,hj,Xd4]
    rw[e1];refine .wu r m j 0 _ (λe2 ab ae aa F=>?_) (λcs F=>by rw[U] at F;simp at F) ⟨_,rfl⟩;rw[U] at F;simp only[X24,OB.row.injEq] at F;obtain⟨rfl,rfl,rfl,rfl⟩:=F;exact⟨by omega,λ_=>⟨by omega,b,H,q2,rfl⟩⟩
  exact h.elim
 exact h.elim
def SZ {obl:I (O OB)}(H:ur P T){t:Nat}{x y:AV}{J M:A}{K:AV->Prop}(Q:gT S w φ (λr=>obl.getD r none) x J) (F:iA (λr=>obl.getD r none) x) (U:gT S w φ (λr=>obl.getD r none) y M) (h:MX T t x y obl K) : ∃out u,K out/\(Instr.indexAt t J M).run P w=.ok u w/\gT S w φ (λr=>obl.getD r none) out u/\iA (λr=>obl.getD r none) out:=by
 unfold MX at h;split at h
 ·exact Rm H Q F U h
 exact Pv H Q F U h
def N7 {x:AV}{vx:A}{K:I AV->Prop}(Q:gT S w φ ob x vx)(hc:iA ob x)(h:Lm x K) : ∃F J,K F/\vx=.agg J/\J.size=F.length/\(∀i (H:i<F.length),∃u,J[i]?=some u/\F[i].one=true/\gT S w φ ob F[i] u)/\∀c∈F,iA ob c:=by
 unfold Lm at h;split at h
 ·rename_i F;have M :∀(F:I D) (K:I AV->Prop),UC (λc K=>K (AV.d c)) F K↔K (F.map .d):=by
   intro F;induction F with
   | nil=>intro K;simp[UC]
   | cons c F ih=>intro K;simp[UC,ih]
  rw[M] at h;cases Q with|d _ _ Q=>
  cases Q with|agg _ J f U V Y Z=>
  refine⟨_,J,h,rfl,by simpa using U,λi H=>⟨f i,V i (by simpa using H),?_,?_⟩,λc M=>?_⟩
  ·simpa[AV.one] using Y i (by simpa using H)
  ·simpa using gT.d _ _ (Z i (by simpa using H))
  obtain⟨y,_,rfl⟩:=Xaf.1 M;exact BM ob y
 ·rename_i F;cases Q with|agg _ J f U V Y Z=>
  refine⟨F,J,h,rfl,U,λi H=>⟨f i,V i H,Y i H,Z i H⟩,λc M r a1=>?_⟩;obtain⟨j,hj,rfl⟩:=Xad M;exact hc r (AV.vr F j hj r a1)
 exact h.elim
def Yq (hT:ur P T){t off:Nat}{H:I AV}{M:Array A}{K:AV->Prop}(hs:M.size=H.length)(V :∀i (Y:i<H.length),∃u,M[i]?=some u/\H[i].one=true/\gT S w φ ob H[i] u) (Z :∀c∈H,iA ob c) (h:eU T t H off K) :∃out u,K out/\(part t M off).run P w=.ok u w/\gT S w φ ob out u/\iA ob out:=by
 unfold eU at h;cases F:(T.get t).kind.wL with
 | none=>simp[F] at h
 | some q=>
  have J:=hT.of (t:=t) (by rw[F];simp);cases q with
  | true=>
   simp only[F,IR,AK,HW,IP,Nat.ble_eq,X17] at h;refine⟨_,_,h.2,MC J F,?_,KV λc hm=>Z c (Xdd (List.mem_of_mem_take hm))⟩;refine Qy (by simp[hs];omega) λi Y=>?_;simp only[X18,X17] at Y;obtain⟨u,Q,h2,U⟩:=V (off+i) (by omega);refine⟨u,?_,?_,?_⟩
   ·rw[Array.getElem?_extract,Wr (by omega)];exact Q
   ·simpa[Xbe,Xbi] using h2
   simpa[Xbe,Xbi] using U
  | false=>
   simp only[F] at h;cases hg:H[off]? with
   | none=>simp[hg] at h
   | some x=>simp only[hg,B8] at h;obtain⟨p1,p2⟩:=X16.1 hg;obtain⟨d,hu,hd⟩:=J.kind.plain F;obtain⟨u,Q,h2,U⟩:=V off p1;exact⟨x,u,h,run_part_plain hu hd Q,p2▸U,Z x (Xcb hg)⟩
def YG (M:ur P T){t i:Nat}{x:AV}{Q:A}{K:AV->Prop}(U:gT S w φ ob x Q)(V:iA ob x)(h:X4 T t i x K) : ∃out u,K out/\(Instr.field t Q i).run P w=.ok u w/\gT S w φ ob out u/\iA ob out:=by
 unfold X4 at h;split at h
 ·rename_i fs hk;have H:=(M.of (t:=t) (by rw[hk];simp[TK.wL])).kind;rw[hk] at H;split at h
  ·rename_i o s ft Y;obtain⟨cs,vs,Z,rfl,hs,hr,J⟩:=N7 U V h;obtain⟨F,f,h1,h2,h3,h4,h5⟩:=QZ H Y;obtain⟨out,u,g1,g2,g3,g4⟩:=Yq M hs hr J Z;refine⟨out,u,g1,?_,g3,g4⟩;simp only[Instr.field,Xat,Xa7 h1,Xah,h2,asAgg,Xcs,h3,h4,g2]
  exact h.elim
 exact h.elim
def YW (V:ur P T){t:Nat}{x y:AV}{vx vy:A}{K:AV->Prop}(hx:gT S w φ ob x vx)(hc:iA ob x)(hy:gT S w φ ob y vy)(h:Xo T t x y K) : ∃out u,K out/\(Instr.index t vx vy).run P w=.ok u w/\gT S w φ ob out u/\iA ob out:=by
 unfold Xo at h;split at h
 ·obtain rfl:=hy.int;rename_i k i;split at h
  ·rename_i s hk;have F:=(V.of (t:=t) (by rw[hk];simp[TK.wL])).kind;rw[hk] at F;simp only[wb] at F;obtain rfl:=hx.str;obtain⟨Y,c,Z,H⟩:=h;refine⟨_,.int .u8 c.toNat,H,?_,.d _ _ (.val _ rfl),BM _ _⟩;have J:i.toNat<s.size:=by omega
   have:s[i.toNat]?=some c:=by
    have h1:s.toList.getD i.toNat 0=s[i.toNat]:=by
     rw[Xdl];have hl:i.toNat<s.data.toList.length:=by rw[Xan];exact J
     rw[Xa6,X15 hl];rfl
    rw[<- Z,h1];exact getElem?_pos s i.toNat J
   simp only[Instr.index,asIntOf,Xat,Xcs,Xah,Xa7 F,Wr Y.1,this]
  ·rename_i n e hk;obtain⟨cs,vs,H,rfl,hs,hr,a1⟩:=N7 hx hc h;obtain⟨Y,H⟩:=H;split at H
   ·rename_i M;obtain⟨a,ha,H⟩:=H;rw[B8] at H;have Q:=V.of (t:=e) (by rw[M];simp);obtain⟨d,hu,hd⟩:=Q.kind.plain M;obtain⟨a7,z,U,a6,_⟩:=Q.wX;obtain⟨p1,p2⟩:=X16.1 ha;obtain⟨u,h1,h2,h3⟩:=hr _ p1;refine⟨a,u,H,?_,p2▸h3,a1 a (Xcb ha)⟩;have e1:(sizeOf e).run P w=.ok (T.get e).size w:=by simp[sizeOf,Xer,U,a6]
    have e2:=run_part_plain (w:=w) hu hd h1;have e3:=Xa7 (Qz V hk) w;simp only[Instr.index,asIntOf,Xat,Xcs,Xah,e3,Wr Y,e1,e2]
   exact H.elim
  exact h.elim
 exact h.elim
end
end Go.AX
end
