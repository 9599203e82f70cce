/-
  Texts of one proof, packed.
-/
import Derived.Test.YtgbncopbacigiaaGreatDoorD3
import Derived.Laws.BytesArg
set_option linter.all false
set_option maxRecDepth 100000
set_option maxHeartbeats 4000000
open List renaming length_map→X10,length_append→X11,mem_singleton→X14,getElem?_eq_getElem→X15,getElem?_eq_some_iff→X16,length_drop→X17,length_take→X18,length_replicate→X20,length_set→X21
open Option.some renaming injEq→X24
open Prod.mk renaming injEq→X26
open Nat renaming eq_of_beq_eq_true→X30,mul_le_mul_right→X31,add_mul→X32
open List renaming range→Xb4
open Go.Result renaming andThen_ok→Xa1
open Go renaming run_underlying→Xa5,maxLen→Xbl,undef→Xc3
open Go.Sem renaming run_bind→Xa9,run_pure→Xbz
open Go.Builtin renaming zeroCells→Xaf,append_→Xcn
open Go.Instr renaming sureAddr→Xbu
open Go.ByteArray renaming toList_eq→Xd8
section
namespace Go.AX
section
variable {P:Program} {T:TT} {E:Env} {w:B} {S:Sc} {φ:Nat->C (Nat×Rp)} {ob:Nat->C OB}
def Mem.drew (m:Mem E w S φ ob):Mem E w.drew S φ ob/\Kept w S φ ob w.drew S φ ob:=by have F:Kept w S φ ob w.drew S φ ob:=⟨λ_ _ h=>⟨h,rfl⟩,λr _=>.refl φ ob r,λ_ h=>h⟩;exact⟨⟨λr o h=>(m.obj r o h).s9 F rfl (λ_ _ _=>⟨rfl,λ_ h=>h⟩) (m.tE r o h),m.inj,m.tE,m.sS,m.kS,m.bS,m.nS,m.fr,m.sz,m.ow,⟨m.os.1,m.os.2.1,m.os.2.2.1,m.os.2.2.2.imp_right λh=>Xa3 h (Nat.le_succ _)⟩⟩,F⟩
structure uZ (S:Sc)(w:World)(sz:Nat)(ys:List D)(v:Value):Prop where
 s7 :∀i (hi:i<ys.length),ys[i].cells.length=sz
 na :∀i (hi:i<ys.length) j (hj:j<ys[i].cells.length),ys[i].cells[j].isAgg=false
 v:((∃a c,v=.slice a 0 c)/\ys=[]) \/∃b o cap,∃f:Nat->Nat->Value,v=.slice (some ⟨b,o,none⟩) ys.length cap/\(∀i j,i<ys.length->j<sz->cellAt w b (o+i*sz+j)=some (f i j))/\
  ∀i (hi:i<ys.length) j (hj:j<ys[i].cells.length),rH S w ys[i].cells[j] (f i j)
def V7 {obl:O (C OB)}(m:Mem E w S φ (λr=>obl.getD r none)){y:AV}{v:A}{K:Nat->O D->Prop}(J:gM S w φ (λr=>obl.getD r none) y v)(h:VN obl y K) : ∃sz ys,K sz ys/\uZ S w sz ys v:=by
 unfold VN at h;split at h
 ·rename_i sz U;refine⟨sz,U,h,?_⟩;cases J with|d _ _ J=>
  cases J with
  | sB=>exact⟨λi F=>by simp at F,λi F=>by simp at F,.inl ⟨⟨_,_,rfl⟩,rfl⟩⟩
  | su _ _ b o Q f hl hc s7 hS hn hr=>exact⟨s7,hn,.inr ⟨b,o,Q,f,rfl,λi j F V=>(hS i j F V).2,hr⟩⟩
 ·rename_i sz;refine⟨sz,[],h,?_⟩;cases J with|d _ _ J=>
  cases J with
  | nil=>exact⟨λi F=>by simp at F,λi F=>by simp at F,.inl ⟨⟨_,_,rfl⟩,rfl⟩⟩
 ·rename_i r n;rw[An] at h;obtain⟨o,ho,h⟩:=h;cases o with
  | box=>simp at h
  | map=>simp at h
  | rK=>simp at h
  | gone=>simp at h
  | row e sz U Y=>
   simp only at h;refine⟨sz,U,h.2,?_⟩;obtain⟨g0,g1,g2,g3⟩:=m.obj r _ ho;cases J with|own _ _ _ k c a0 hv hk h1 hb=>
   obtain⟨_,h2⟩:=h1 e sz U Y ho;rcases h2 h.1 with ⟨M,a2,_,rfl⟩|⟨b,Q,M,rfl⟩
   ·exact⟨g1,g2,.inl ⟨⟨_,_,rfl⟩,Xab (by omega)⟩⟩
   rcases g3 with ⟨Z,_⟩|⟨b',H,vs,f,Z,f2,f3,f4,f5,f6,f7,f8⟩
   ·rw[Z] at M;simp at M
   rw[Z] at M;simp only[X24,X26] at M;obtain⟨rfl,rfl⟩:=M;exact⟨g1,g2,.inr ⟨b',H.2,H.1,f,by rw[h.1],λi j F V=>by rw[BB f2,Xb9];exact f6 i j F V,f7⟩⟩
 exact h.elim
def Ll {obl:O (C OB)}(m:Mem E w S φ (λr=>obl.getD r none)){y:AV}{v:A}{K:Nat->O D->Prop}(hy:gM S w φ (λr=>obl.getD r none) y v)(h:WA obl y K) : ∃sz ys,K sz ys/\uZ S w sz ys v:=by
 unfold WA at h;split at h
 ·rename_i r a n k;rw[An] at h;obtain⟨o,ho,h⟩:=h;cases o with
  | box=>simp at h
  | map=>simp at h
  | rK=>simp at h
  | gone=>simp at h
  | row e sz es Y=>
   simp only at h;obtain⟨hm,Q,U,hK⟩:=h;obtain⟨g0,g1,g2,g3⟩:=m.obj r _ ho;cases hy with|th _ _ _ _ _ k c a0 hv hk h1=>
   obtain⟨q1,q2,_⟩:=(h1 e sz es Y ho).2 hm;have V:Q.length=n:=by rw[<- U];simp;omega
   have F :∀i (J:i<Q.length),Q[i]=es[a+i]'(by omega):=λi J=>by subst U;simp
   refine⟨sz,Q,hK,λi J=>by rw[F i J];exact g1 _ _,λi J j M=>by
    have:=F i J;simp only[this] at M⊢
    exact g2 _ _ j M,?_⟩
   rcases q2 with q2|⟨b,a1,c',q2,q3,_⟩
   ·have:Q=[]:=Xab (by omega);exact .inl ⟨⟨a0,c,by rw[hv,hk,q2]⟩,this⟩
   rcases g3 with ⟨Z,_⟩|⟨b',H,vs,f,Z,f2,f3,f4,f5,f6,f7,f8⟩
   ·rw[Z] at q2;simp at q2
   rw[Z] at q2;simp only[X24,X26] at q2;obtain⟨rfl,rfl⟩:=q2;refine .inr ⟨b',H.2+a*sz,c',λi j=>f (a+i) j,by rw[q3,V],λi j J M=>?_,λi J j M=>?_⟩
   ·rw[BB f2,show H.2+a*sz+i*sz+j=H.2+((a+i)*sz+j) by rw[X32];omega];exact f6 (a+i) j (by omega) M
   have:=F i J;simp only[this] at M⊢;exact f7 (a+i) (by omega) j M
 exact V7 m hy h
def flat (n sz:Nat)(f:Nat->Nat->A):O A:=(Xb4 (n*sz)).map λk=>f (k/sz) (k%sz)
def rk (n sz:Nat)(f:Nat->Nat->A):(flat n sz f).length=n*sz:=by simp[flat]
def flat_get {n sz:Nat}(f:Nat->Nat->A){i j:Nat}(H:i<n)(F:j<sz):(flat n sz f)[i*sz+j]?=some (f i j):=by
 have:i*sz+j<n*sz:=by have:(i+1)*sz<=n*sz:=X31 _ H;rw[X32] at this;omega
 have s7:0<sz:=by omega
 have J:(i*sz+j)/sz=i:=by rw[Xc0,Nat.mul_add_div s7,Nat.div_eq_of_lt F,Xch]
 have K:(i*sz+j)%sz=j:=by rw[Xc0,Nat.mul_add_mod,Xbe F]
 simp[flat,this,J,K]
def Ny {n sz:Nat}{f:Nat->Nat->A}{g:Nat->C A}(h :∀i j,i<n->j<sz->g (i*sz+j)=some (f i j)) :∀k v,(flat n sz f)[k]?=some v->g k=some v:=by
 intro k v H;obtain⟨F,rfl⟩:=X16.1 H;rw[rk] at F;have s7:0<sz:=by
  rcases Nat.eq_zero_or_pos sz with h|h
  ·subst h;simp at F
  exact h
 have J:k/sz<n:=Nat.div_lt_of_lt_mul (by rw[Xc0];exact F);have K:k%sz<sz:=Nat.mod_lt _ s7;have M:k/sz*sz+k%sz=k:=by rw[Xc0];exact Nat.div_add_mod k sz
 have:=h _ _ J K;rw[M] at this;simp[flat,this]
def uZ.one {sz n:Nat}{ys:O D}{f:Nat->Nat->A}(M:n=ys.length)(Q :∀i (H:i<ys.length),ys[i].cells.length=sz)(U :∀i (H:i<ys.length) j (V:j<ys[i].cells.length),ys[i].cells[j].isAgg=false) (Y :∀i (H:i<ys.length) j (V:j<ys[i].cells.length),rH S w ys[i].cells[j] (f i j)) :∀u∈flat n sz f,u.oneCell'=true:=by
 intro u Z;obtain⟨k,F,rfl⟩:=Wz Z;rw[rk] at F;have s7:0<sz:=by
  rcases Nat.eq_zero_or_pos sz with h|h
  ·subst h;simp at F
  exact h
 have J:k/sz<ys.length:=by rw[<- M];exact Nat.div_lt_of_lt_mul (by rw[Xc0];exact F)
 have K:k%sz<ys[k/sz].cells.length:=by rw[Q];exact Nat.mod_lt _ s7
 have:=(Y _ J _ K).one (U _ J _ K);simpa[flat] using this
def Ql {es ys:O D}{sz:Nat}(H :∀i (F:i<es.length),es[i].cells.length=sz)(J :∀i (F:i<ys.length),ys[i].cells.length=sz) : ∀i (F:i<(es++ys).length),(es++ys)[i].cells.length=sz:=by
 intro i F;rw[Xbs];split
 ·exact H _ _
 exact J _ _
def JJ {t ty e:Nat}(H:P.underlying t=some (.slice e)){i:TypeInfo}(J:P.info? e=some i)(a:C Addr)(n c:Nat)(K:n<=c){F:C Addr}{M:Nat} : (Xcn #[t,t] ty #[.slice a n c,.slice F 0 M]).run P w=.ok (.slice a n c) w:=by cases a<;>cases F<;>simp[Xcn,Xa5 H,sizeOf,typeInfo,J,Builtin.lenOf,K,Builtin.firstCells,storeCells,loadCells,loadCellsFrom]
def Ld (t ty e:TypeId)(i:TypeInfo)(Y:P.underlying t=some (.slice e))(Z:P.info? e=some i) (g o H J:Nat) (K:Array A) (hg:w.heap[g]?=some (.cells K e (0,0))) (a:Addr) (m c:Nat) (F:O A) (hl:F.length=m*i.size) (M :∀j u,F[j]?=some u->w.cell? (a.add j)=some u) (h1 :∀u∈F,u.oneCell'=true) (Q:H+m<=J) (U:o+H*i.size+F.length<=K.size) : (Xcn #[t,t] ty #[.slice (some ⟨g,o,none⟩) H J,.slice (some a) m c]).run P w = .ok (.slice (some ⟨g,o,none⟩) (H+m) J) (w.setRow g (K.toList.take (o+H*i.size)++F++K.toList.drop (o+H*i.size+F.length)).toArray):=by have hf:=run_firstCells_some (P:=P) w i.size m a m c F hl M;have V:=run_storeCells_at P g (o+H*i.size) e F 0 K w hg (by simpa using U) h1;simp only[Xch] at V;simp[Xcn,Xa5 Y,sizeOf,typeInfo,Z,Builtin.lenOf,Q,hf,Addr.add_lit,V]
def Mem.fz (m:Mem E w S φ ob){r e sz:Nat}{es:O D}{f F:FZ}(J:ob r=some (.row e sz es f))(Z:F.frozen=f.frozen)(U :∀q∈F.refs,ob q≠none)(hl :∀i j q n,F=.lk i j q n->es.length<=i\/f=.lk i j q n) : Mem E w S φ (rJ ob r (some (.row e sz es F)))/\Kept w S φ ob w S φ (rJ ob r (some (.row e sz es F))):=by
 obtain⟨g0,g1,g2,g3⟩:=m.obj r _ J;have:=m.set r _ (.row e sz es F) w (φ r) J (λ_ _ _=>rfl) (Xa8 _) ⟨rfl,rfl,rfl,Xa8 _⟩ (λ_ _ _ _ _=>rfl) (.inl rfl) (.inl ⟨gL _ _ _,by simp[J,tz],λ⟨cs,h⟩=>by simp at h⟩) U λV=>by
  refine⟨g0,g1,g2,g3.imp (λh=>⟨by rw[gL];exact h.1,h.2⟩) ?_⟩;rintro⟨b,K,vs,g,f1,f2,f3,f4,f5,f6,f7,f8⟩;refine⟨b,K,vs,g,by rw[gL];exact f1,f2,f3,f4,f5,f6,λi H j M=>(f7 i H j M).mono V.k,λo h=>f8.1 o (by rw[Z] at h;exact h),λi j q n h H M=>?_⟩;rcases hl i j q n h with Y|Y
  ·omega
  exact V.tZ (λq' Q=>U q' (by rw[h];simpa[AV.refs] using Q)) (f8.2 i j q n Y H M)
 have hu:rJ φ r (φ r)=φ:=by funext i;by_cases H:i=r<;>simp[rJ,H]
 rw[hu] at this;exact this
structure xt (P:Program)(w:World)(t u ty e:Nat)(z:Value)(i:TypeInfo)(sz n:Nat)(f:Nat->Nat->Value)(vy:Value):Prop where
 yL:n=0->∀(a:Option Addr) (m c:Nat),m<=c->(Builtin.append_ #[t,u] ty #[.slice a m c,vy]).run P w=.ok (.slice a m c) w
 new:0<n->∀(a0:Option Addr),n*i.bytes<=281474976710656->(Builtin.append_ #[t,u] ty #[.slice a0 0 0,vy]).run P w =
  .ok (.slice (some ⟨w.heap.size,0,none⟩) n (grownCap w n 0 e)) (w.drew.alloc (.cells ((flat n sz f).toArray++Builtin.zeroCells z.cells (grownCap w n 0 e-n)) e))
 room:0<n->∀(g o sLen sCap:Nat) (cur:Array Value),w.heap[g]?=some (.cells cur e (0,0))->sLen+n<=sCap->o+sLen*sz+n*sz<=cur.size->
  (Builtin.append_ #[t,u] ty #[.slice (some ⟨g,o,none⟩) sLen sCap,vy]).run P w=.ok (.slice (some ⟨g,o,none⟩) (sLen+n) sCap) (w.setRow g (cur.toList.take (o+sLen*sz)++flat n sz f++cur.toList.drop (o+sLen*sz+(flat n sz f).length)).toArray)
 grow:0<n->∀(b:Addr) (sLen sCap:Nat) (olds:List Value),olds.length=sLen*sz->(∀j v,olds[j]?=some v->w.cell? (b.add j)=some v)->sCap<sLen+n->((sLen+n:Nat):Int)<=9223372036854775807->Builtin.nextslicecap (sLen+n) sCap*i.bytes<=281474976710656->
  (Builtin.append_ #[t,u] ty #[.slice (some b) sLen sCap,vy]).run P w=.ok (.slice (some ⟨w.heap.size,0,none⟩) (sLen+n) (grownCap w (sLen+n) sCap e))
   (w.drew.alloc (.cells (olds.toArray++(flat n sz f).toArray++Builtin.zeroCells z.cells (grownCap w (sLen+n) sCap e-(sLen+n))) e))
def L1 (m:Mem E w S φ ob){t u ty e:Nat}{al:TI}(be:ud P e al)(ht:P.underlying t=some (.slice e)){r sz:Nat}{es ys:O D}{frz fz':FZ}(ar:fz'.frozen=frz.frozen)(ho:ob r=some (.row e sz es frz)){vx vy:A} (hv:Hy φ r es.length vx) {f:Nat->Nat->A} (af :∀i (J:i<ys.length),ys[i].cells.length=sz) (ag :∀i (J:i<ys.length) j (H:j<ys[i].cells.length),ys[i].cells[j].isAgg=false) (hr :∀i (J:i<ys.length) j (H:j<ys[i].cells.length),rH S w ys[i].cells[j] (f i j)) (hy :∀{i z},P.info? e=some i->i.zero=some z->xt P w t u ty e z i sz ys.length f vy) (a6 :∀i j q n,fz'=.lk i j q n->ob q≠none/\∃i0,i=es.length+i0/\(i0<ys.length->j<sz->gM S w φ ob (.own q n) (f i0 j))) (s7:al.size=sz) (bf:(es.length+ys.length)*al.bytes<=2^47) (a7:es.length+ys.length<=2^47) : ∃u' w' φ',(Xcn #[t,u] ty #[vx,vy]).run P w=.ok u' w'/\Mem E w' S φ' (rJ ob r (some (.row e sz (es++ys) fz')))/\Kept w S φ ob w' S φ' (rJ ob r (some (.row e sz (es++ys) fz')))/\Hy φ' r (es++ys).length u':=by
 obtain⟨i,z,J,bg,bh,hz,bi,bw,_⟩:=be.sV;rw[s7] at bg;obtain⟨g0,g1,g2,g3⟩:=m.obj r _ ho;have bx:ob r≠none:=by simp[ho]
 have Q :∀q∈fz'.refs,ob q≠none:=by
  intro q hq;cases hz:fz' with
  | no=>simp[hz] at hq
  | sQ=>simp[hz] at hq
  | lk i j q' n=>simp only[hz,FZ.tU,X14] at hq;rw[hq];exact (a6 _ _ _ _ hz).1
 have ah :∀(h:ys=[]),Mem E w S φ (rJ ob r (some (.row e sz (es++ys) fz')))/\Kept w S φ ob w S φ (rJ ob r (some (.row e sz (es++ys) fz'))):=by intro h;subst h;rw[Xag];refine m.fz ho ar Q λi j q n h=>.inl ?_;obtain⟨_,i0,h1,_⟩:=a6 i j q n h;omega
 have bj:(2:Nat)^47=140737488355328:=by decide
 rw[bj] at bf a7;have Y:(es.length+ys.length)*i.bytes<=140737488355328:=by rw[bh];omega
 have au :∀(c:Nat),grownCap w (es.length+ys.length) c e<=Xbl:=λc=>grownCap_le_maxLen w _ c e (by simp only[Xbl];omega);have fresh :∀(xs:O A) (c:Nat) (hc:c<es.length+ys.length) (bk:es.length<=c) (f g:Nat->Nat->A) (U:xs=flat es.length sz g)
   (hg :∀i (J:i<es.length) j (H:j<es[i].cells.length),rH S w es[i].cells[j] (g i j))
   (hf :∀i (J:i<ys.length) j (H:j<ys[i].cells.length),rH S w ys[i].cells[j] (f i j))
   (ax :∀i j q n,fz'=.lk i j q n->i<(es++ys).length->j<sz->gM S w φ ob (.own q n) (f (i-es.length) j)),
   ∃φ',Mem E (w.drew.alloc (.cells (xs.toArray++(flat ys.length sz f).toArray++Xaf z.cells (grownCap w (es.length+ys.length) c e-(es.length+ys.length))) e)) S φ' (rJ ob r (some (.row e sz (es++ys) fz')))/\
    Kept w S φ ob (w.drew.alloc (.cells (xs.toArray++(flat ys.length sz f).toArray++Xaf z.cells (grownCap w (es.length+ys.length) c e-(es.length+ys.length))) e)) S φ' (rJ ob r (some (.row e sz (es++ys) fz')))/\
    Hy φ' r (es++ys).length (.slice (some ⟨w.heap.size,0,none⟩) (es.length+ys.length) (grownCap w (es.length+ys.length) c e)):=by
  intro xs c hc bk f g U hg hf ax;have an:=grownCap_ge w (es.length+ys.length) c e;obtain⟨md,kd⟩:=m.drew;generalize ae:w.drew.alloc (.cells (xs.toArray++(flat ys.length sz f).toArray++Xaf z.cells (grownCap w (es.length+ys.length) c e-(es.length+ys.length))) e)=w';have ay:w'.heap[w.heap.size]?=some (.cells (xs.toArray++(flat ys.length sz f).toArray++Xaf z.cells (grownCap w (es.length+ys.length) c e-(es.length+ys.length))) e (0,0)):=by rw[<- ae];exact heap_alloc_new w.drew _
  have ai :∀k,k<w.heap.size->w'.heap[k]?=w.heap[k]?:=λk hk=>by rw[<- ae];exact GQ w.drew _ hk
  have bl:w'.heap.size=w.heap.size+1:=by rw[<- ae];simp
  have az:((xs.toArray++(flat ys.length sz f).toArray++Xaf z.cells (grownCap w (es.length+ys.length) c e-(es.length+ys.length)))).size=grownCap w (es.length+ys.length) c e*sz:=by simp only[Array.size_append,Xbo,size_zeroCells,bi,U,rk,s7];rw[<- X32,<- X32];congr 1;omega
  obtain⟨m',k'⟩:=m.set r _ (.row e sz (es++ys) fz') w' (some (w.heap.size,(grownCap w (es.length+ys.length) c e,0))) ho (λk hk _=>ai k hk) (by omega) (by rw[<- ae];exact⟨rfl,rfl,rfl,Nat.le_succ _⟩)
   (λb' c' o' bz hS=>DT (ai b' (m.bS b' o' hS)) o') (.inr ⟨_,_,rfl,Xa8 _,by omega⟩)
   (.inr <| .inl ⟨e,sz,es,frz,es++ys,fz',ho,gL _ _ _,by simp,λhh=>by
    have bm:ys=[]:=by simpa using hh
    subst bm;simp at hc
    omega⟩) (λr' ao=>Q r' ao) (λhk=>by
    refine⟨g0,Ql g1 af,λi J j H=>?_,.inr ⟨w.heap.size,(grownCap w (es.length+ys.length) c e,0),_,λi j=>if i<es.length then g i j else f (i-es.length) j,gL _ _ _,ay,by simpa using an,au c,by rw[az];exact Nat.le_of_eq (Xan _),λi j J H=>?_,λi J j H=>?_,λo' _ a8=>?_,λi j q n hq J H=>?_⟩⟩
    ·have e1:(es++ys)[i]=if h:i<es.length then es[i] else ys[i-es.length]'(by simp at J;omega):=Xbs ..;simp only[e1] at H⊢;split at H
     ·rename_i h;simp only[h,dif_pos];exact g2 i h j H
     rename_i h;simp only[h,dif_neg,Xdf];exact ag _ _ j H
    ·simp only[X11] at J;simp only[Xan]
     rw[Array.getElem?_append_left (by
      simp only[Array.size_append,Xbo,U,rk,<- X32];have:(i+1)*sz<=(es.length+ys.length)*sz:=X31 _ J;rw[X32] at this
      omega)]
     by_cases h:i<es.length
     ·simp only[Xy h]
      rw[Array.getElem?_append_left (by
       simp only[Xbo,U,rk];have:(i+1)*sz<=es.length*sz:=X31 _ h;rw[X32] at this
       omega)]
      simp only[U];simpa using flat_get g h H
     have b0:es.length*sz<=i*sz:=X31 _ (by omega);simp only[Xj h];rw[Array.getElem?_append_right (by simp only[Xbo,U,rk];omega)];simp only[Xbo,U,rk];have e2:i*sz+j-es.length*sz=(i-es.length)*sz+j:=by rw[Nat.sub_mul];omega
     rw[e2];simpa using flat_get f (show i-es.length<ys.length by omega) H
    ·have e1:(es++ys)[i]=if h:i<es.length then es[i] else ys[i-es.length]'(by simp at J;omega):=Xbs ..;simp only[e1] at H⊢;split at H
     ·rename_i h;simp only[h,dif_pos,Xdl];exact (hg i h j H).mono hk.k
     rename_i h;simp only[h,dif_neg,Xdf,Xd0];exact (hf _ _ j H).mono hk.k
    ·exact absurd (m.bS _ _ a8) (Nat.lt_irrefl _)
    obtain⟨h1,i0,h2,_⟩:=a6 i j q n hq;simp only[Xj (show ¬ i<es.length by omega)]
    exact hk.tZ (λq' aa=>by simp only[AV.refs,X14] at aa;rw[aa];exact h1) (ax i j q n hq J H))
  exact⟨_,m',k',.inr ⟨_,_,gL _ _ _,by simp⟩⟩
 have ap :∀i j q n,fz'=.lk i j q n->i<(es++ys).length->j<sz->gM S w φ ob (.own q n) (f (i-es.length) j):=by
  intro i j q n hq J H;obtain⟨_,i0,h2,h3⟩:=a6 i j q n hq;simp only[X11] at J;have e:i-es.length=i0:=by omega
  rw[e];exact h3 (by omega) H
 have hR:=hy J hz;by_cases Z:ys=[]
 ·refine⟨vx,w,φ,?_,(ah Z).1,(ah Z).2,?_⟩
  ·rcases hv with ⟨a1,a2,a0,rfl⟩|⟨b1,F,a1,rfl⟩
   ·exact hR.yL (by rw[Z];rfl) a0 0 0 (Xa8 _)
   rcases g3 with ⟨f1,_⟩|⟨b',ba,K,g,f1,f2,f3,_⟩
   ·rw[a1] at f1;simp at f1
   rw[a1] at f1;simp only[X24,X26] at f1;obtain⟨rfl,rfl⟩:=f1;exact hR.yL (by rw[Z];rfl) _ _ _ f3
  rw[Z,Xag];exact hv
 have ab:0<ys.length:=Xc7.2 Z;rcases hv with ⟨a1,a2,a0,rfl⟩|⟨b1,F,a1,rfl⟩
 ·
  have bb:es=[]:=Xab a2;have bn:ys.length*i.bytes<=281474976710656:=by rw[a2,Xan] at Y;omega
  have M:=hR.new ab a0 bn;obtain⟨φ',h1,h2,h3⟩:=fresh [] 0 (by omega) (by omega) f (λ_ _=>Xc3) (by simp[bb,flat]) (λi J=>by simp[bb] at J) hr ap;simp only[a2,Xan] at h1 h2 h3;exact⟨_,_,φ',M,by simpa using h1,by simpa using h2,h3⟩
 rcases g3 with ⟨f1,_⟩|⟨b',ba,K,g,f1,f2,f3,f4,f5,f6,f7,f8⟩
 ·rw[a1] at f1;simp at f1
 rw[a1] at f1;simp only[X24,X26] at f1;obtain⟨rfl,rfl⟩:=f1;by_cases V:es.length+ys.length<=F.1
 ·have b0:(es.length+ys.length)*sz<=F.1*sz:=X31 _ V;rw[X32] at b0;have M:=hR.room ab b1 F.2 es.length F.1 K f2 V (by omega);have bo:(K.toList.take (F.2+es.length*sz)++flat ys.length sz f++K.toList.drop (F.2+es.length*sz+(flat ys.length sz f).length))=BG K.toList (F.2+es.length*sz) (flat ys.length sz f):=rfl;rw[bo] at M;have aj:F.2+es.length*sz+(flat ys.length sz f).length<=K.toList.length:=by rw[rk];simp;omega
  obtain⟨q1,q2,q3⟩:=IC w b1 (BG K.toList (F.2+es.length*sz) (flat ys.length sz f)).toArray;have hh:=setRow_heap w b1 K (BG K.toList (F.2+es.length*sz) (flat ys.length sz f)).toArray e (0,0) f2;have ak :∀k,(BG K.toList (F.2+es.length*sz) (flat ys.length sz f)).toArray[k]?=if F.2+es.length*sz<=k/\k<F.2+es.length*sz+ys.length*sz then (flat ys.length sz f)[k-(F.2+es.length*sz)]? else K[k]?:=by intro k;have:=EA K.toList (F.2+es.length*sz) (flat ys.length sz f) aj k;rw[rk] at this;simpa using this
  have bp :∀o',S b1 o'->o'<F.2+es.length*sz:=by intro o' a8;refine Xaz λan=>f8.1 o' ?_ a8;cases frz<;>simp;exact an
  obtain⟨m',k'⟩:=m.set r _ (.row e sz (es++ys) fz') (w.setRow b1 (BG K.toList (F.2+es.length*sz) (flat ys.length sz f)).toArray) (φ r) ho (λk hk bq=>q1 k λe=>bq F (by rw[e];exact a1)) (by omega) q3
   (λb2 c2 o2 a7 br=>by
    rw[a1] at a7;simp only[X24,X26] at a7;obtain⟨rfl,rfl⟩:=a7
    rw[BB hh,BB f2,ak,Xj (by have:=bp o2 br;omega)]) (.inl rfl)
   (.inr <| .inl ⟨e,sz,es,frz,es++ys,fz',ho,gL _ _ _,by simp,λ_=>gL _ _ _⟩) (λr' ao=>Q r' ao) (λhk=>by
    refine⟨g0,Ql g1 af,λi J j H=>?_,.inr ⟨b1,F,_,λi j=>if i<es.length then g i j else f (i-es.length) j,by rw[gL];exact a1,hh,by simpa using V,f4,?_,λi j J H=>?_,λi J j H=>?_,λo' bc a8=>?_,λi j q n hq J H=>?_⟩⟩
    ·have e1:(es++ys)[i]=if h:i<es.length then es[i] else ys[i-es.length]'(by simp at J;omega):=Xbs ..;simp only[e1] at H⊢;split at H
     ·rename_i h;simp only[h,dif_pos];exact g2 i h j H
     rename_i h;simp only[h,dif_neg,Xdf];exact ag _ _ j H
    ·rw[Xbo,BN _ _ _ aj];simpa using f5
    ·simp only[X11] at J;rw[ak];by_cases h:i<es.length
     ·have:(i+1)*sz<=es.length*sz:=X31 _ h;rw[X32] at this;simp only[Xy h];rw[Xj (by omega)];exact f6 i j h H
     have bu:es.length*sz<=i*sz:=X31 _ (by omega);have bd:(i+1)*sz<=(es.length+ys.length)*sz:=X31 _ J;rw[X32,X32] at bd;simp only[Xj h];rw[Xy (by omega)];have e2:F.2+(i*sz+j)-(F.2+es.length*sz)=(i-es.length)*sz+j:=by rw[Nat.sub_mul];omega
     rw[e2];exact flat_get f (show i-es.length<ys.length by omega) H
    ·have e1:(es++ys)[i]=if h:i<es.length then es[i] else ys[i-es.length]'(by simp at J;omega):=Xbs ..;simp only[e1] at H⊢;split at H
     ·rename_i h;simp only[h,dif_pos,Xdl];exact (f7 i h j H).mono hk.k
     rename_i h;simp only[h,dif_neg,Xdf,Xd0];exact (hr _ _ j H).mono hk.k
    ·refine f8.1 o' ?_ a8;rw[ar] at bc;cases frz with
     | no=>simp
     | lk=>simp
     | sQ=>simp only[FZ.tG,Xdl,X11,X32] at bc⊢;omega
    obtain⟨h1,i0,h2,_⟩:=a6 i j q n hq;simp only[Xj (show ¬ i<es.length by omega)]
    exact hk.tZ (λq' aa=>by simp only[AV.refs,X14] at aa;rw[aa];exact h1) (ap i j q n hq J H))
  have hu:rJ φ r (φ r)=φ:=by funext i;by_cases J:i=r<;>simp[rJ,J]
  rw[hu] at m' k';exact⟨_,_,φ,M,m',k',.inr ⟨_,_,a1,by simp⟩⟩
 have aq :∀j v,(flat es.length sz g)[j]?=some v->w.cell? ((⟨b1,F.2,none⟩:Addr).add j)=some v:=
  Ny (g:=λk=>w.cell? ((⟨b1,F.2,none⟩:Addr).add k)) λi j J H=>by rw[Addr.ss];have:=f6 i j J H;rw[<- BB f2] at this;exact this
 have M:=hR.grow ab ⟨b1,F.2,none⟩ es.length F.1 (flat es.length sz g) (rk _ _ _) aq (by omega) (by omega) (growslice_fits (by omega) Y);obtain⟨φ',h1,h2,h3⟩:=fresh (flat es.length sz g) F.1 (by omega) f3 f g rfl f7 hr ap;exact⟨_,_,φ',M,h1,h2,h3⟩
def Jf (m:Mem E w S φ ob){t ty e:Nat}{a1:TI}(a6:ud P e a1)(V:P.underlying t=some (.slice e)){r sz:Nat}{es ys:O D}{frz fz':FZ}(ab:fz'.frozen=frz.frozen)(ho:ob r=some (.row e sz es frz)){vx vy:A} (hv:Hy φ r es.length vx) (hy:uZ S w sz ys vy) (ae :∀i j q n,fz'=.lk i j q n->ob q≠none/\∃Y,i=es.length+Y/\∀b o l c u,vy=.slice (some ⟨b,o,none⟩) l c->Y<l->j<sz->cellAt w b (o+(Y*sz+j))=some u->gM S w φ ob (.own q n) u) (s7:a1.size=sz) (af:(es.length+ys.length)*a1.bytes<=2^47) (ag:es.length+ys.length<=2^47) : ∃u w' φ',(Xcn #[t,t] ty #[vx,vy]).run P w=.ok u w'/\Mem E w' S φ' (rJ ob r (some (.row e sz (es++ys) fz')))/\Kept w S φ ob w' S φ' (rJ ob r (some (.row e sz (es++ys) fz')))/\Hy φ' r (es++ys).length u:=by
 rcases hy.v with ⟨⟨a2,c2,rfl⟩,al⟩|⟨b,o,U,f,rfl,hc,hr⟩
 ·have h0:ys.length=0:=by rw[al];rfl
  refine L1 (f:=λ_ _=>Xc3) m a6 V ab ho hv hy.s7 hy.na (λi K=>by omega) (λ{i z} K hz=>⟨λ_ a m c a7=>JJ V K a m c a7,λh=>by omega,λh=>by omega,λh=>by omega⟩) (λi j q n h=>?_) s7 af ag;obtain⟨l1,Y,l2,_⟩:=ae i j q n h;exact⟨l1,Y,l2,λh=>by omega⟩
 refine L1 (f:=f) m a6 V ab ho hv hy.s7 hy.na hr (λ{i z} K hz=>?_) (λi j q n h=>?_) s7 af ag
 ·obtain⟨i',z',ah,H,aq,ar,au,ax,_⟩:=a6.sV;rw[K] at ah;cases ah;rw[s7] at H;have F :∀j v,(flat ys.length sz f)[j]?=some v->w.cell? ((⟨b,o,none⟩:Addr).add j)=some v:=
   Ny (g:=λk=>w.cell? ((⟨b,o,none⟩:Addr).add k)) λi j K hj=>by rw[Addr.ss];have:=hc i j K hj;rw[Xb9] at this;exact this
  refine⟨λh0 a m c a7=>by rw[h0];exact JJ V K a m c a7,λJ a0 ai=>?_,λJ g o' M Q an hg a8 Z=>?_,λJ q M Q aj ao aa hg ap Z=>?_⟩
  ·cases a0 with
   | none=>exact run_append_nil (P:=P) w t ty e i z V K hz ⟨b,o,none⟩ ys.length U (flat ys.length sz f) (by rw[rk,H]) F J (by omega) ai
   | some q=>
    have h:=run_append_grow (P:=P) w t ty e i z V K hz q 0 0 [] (by simp) (λj v h=>by simp at h) ⟨b,o,none⟩ ys.length U (flat ys.length sz f) (by rw[rk,H]) F (by omega) (by omega)
     (by rw[Xan,nextslicecap_zero J];exact ai)
    simpa using h
  ·have h:=Ld (P:=P) (w:=w) t ty e i V K g o' M Q an hg ⟨b,o,none⟩ ys.length U (flat ys.length sz f) (by rw[rk,H]) F (uZ.one rfl hy.s7 hy.na hr) a8 (by rw[H,rk];omega);rw[H] at h;exact h
  exact run_append_grow (P:=P) w t ty e i z V K hz q M Q aj (by rw[H];exact ao) aa ⟨b,o,none⟩ ys.length U (flat ys.length sz f) (by rw[rk,H]) F hg ap Z
 obtain⟨l1,Y,l2,l3⟩:=ae i j q n h;exact⟨l1,Y,l2,λak hj=>l3 b o _ _ _ rfl ak hj (by rw[<- Xb9];exact hc Y j ak hj)⟩
def uf (l:O UInt8):strOfNums (l.map λc=>(c.toNat:Int))=⟨l.toArray⟩:=by
 have:(strOfNums (l.map λc=>(c.toNat:Int))).data.toList=l:=by
  rw[strOfNums_data,List.map_map];conv=>rhs;rw[<- List.map_id l]
  refine List.map_congr_left λc _=>?_;simp
 cases h:strOfNums (l.map λc=>(c.toNat:Int)) with
 | mk d=>rw[h] at this;simp only at this;congr 1;exact Array.toList_inj.1 (by simpa using this)
def V0 {obl:O (C OB)}(hT:rc P T)(m:Mem E w S φ (λr=>obl.getD r none)){H dst:Nat}{x:AV}{vx:A}{K:AV->Prop}(hx:gM S w φ (λr=>obl.getD r none) x vx)(h:ZN T H dst x obl K) : FM K ((convert H dst vx).run P w) w:=by
 unfold ZN at h;rw[AH] at h;obtain⟨a1,h⟩:=h;have a6:(T.get H).kind.sG≠none:=λQ=>by simp[Q] at a1
 have V:=hT.of a6;obtain⟨ds,a7⟩ :∃d,P.underlying H=some d:=by
  cases Q:(T.get H).kind.sG with
  | none=>exact absurd Q a6
  | some q=>cases q with
   | true=>obtain⟨d,hd,_⟩:=V.kind.row Q;exact⟨d,hd⟩
   | false=>obtain⟨d,hd,_⟩:=V.kind.plain Q;exact⟨d,hd⟩
 have ae:(T.get dst).kind.sG≠none:=by intro Q;cases U:(T.get dst).kind<;>simp[U,TK.sG] at Q;simp[U] at h
 have F:=(hT.of ae).kind;split at h
 ·rename_i k _ n U;rw[U] at F;obtain rfl:=hx.int;obtain⟨r,rfl,Z⟩:=h;refine⟨_,rfl,Z,?_⟩;simp only[rW] at F;simp[convert,Xa5 a7,Xa5 F,Conv.intToInt]
 ·rename_i s U;rw[U] at F;obtain rfl:=hx.str;refine⟨_,rfl,h,?_⟩;simp only[rW] at F;simp only[convert,Xa9,Xa5 a7,Xa5 F,Xa1];cases ds<;>rfl
 ·rename_i U _;rw[U] at F;simp only[rW] at F;split at h
  ·rename_i e af;have J:=V.kind;rw[af] at J;simp only[rW] at J;split at h
   ·rename_i a8;have ag:(T.get e).kind.sG≠none:=by rw[a8];simp[TK.sG]
    have M:=(hT.of ag).kind;rw[a8] at M;simp only[rW] at M;rw[AH] at h;obtain⟨_,h⟩:=h;obtain⟨sz,ys,Z,ah⟩:=Ll m hx h;rw[AH] at Z;obtain⟨s7,l,hl,Z⟩:=Z;have aa:sz=1:=X30 s7;subst aa hl;refine⟨_,rfl,Z,?_⟩;rcases ah.v with ⟨⟨a2,c2,rfl⟩,h0⟩|⟨b,o,ai,f,rfl,Q,hr⟩
    ·have:l=[]:=by simpa using h0
     subst this;cases a2 with
     | none=>rw[run_convert_bytes_nil w H e J M 0 c2 dst F];rfl
     | some a2=>rw[run_convert_bytes_string w H dst e _ 0 c2 J M F];simp[Conv.bytesToString,loadCells,loadCellsFrom];rfl
    rw[run_convert_bytes_arg w H e J M b o _ ai (l.map λc=>(c.toNat:Int)) (by simp) (λi hi=>?_) dst F,uf];have Y:i<(l.map λc=>(D.u c.toNat:D)).length:=hi;have h1:=Q i 0 Y (by omega);have h2:=hr i Y 0 (by simp[D.cells]);simp only[Nat.mul_one,Xch] at h1;have ab:i<l.length:=by simpa using Y
    simp only[Xas,D.cells,Xb5] at h2;have h3:w.cell? ⟨b,o+i,none⟩=some (f i 0):=h1;rw[h3];generalize f i 0=u at h2⊢;cases h2 with|val _ _=>simp[ab]
   exact h.elim
  exact h.elim
 exact h.elim
def MU {t i o s J:Nat}{fs:O (Nat×Nat×Nat)}(h:rW P t (.struct fs))(K:fs[i]?=some (o,s,J)) : ∃F f,P.underlying t=some (.struct F)/\F[i]?=some f/\f.offset=o/\f.type=J/\(P.info? f.type).map (·.size)=some s:=by
 obtain⟨_,_,F,M,Q,_⟩:=h;have:=congrArg (λl=>l[i]?) Q;simp only[Xd5,K,Xbt] at this;cases H:F[i]? with
 | none=>simp[H] at this
 | some f=>simp[H] at this;exact⟨F,f,M,H,this.1,this.2.2,by simpa using this.2.1⟩
def J2 {t i o s Q:Nat}{fs:O (Nat×Nat×Nat)}(h:rW P t (.struct fs))(U:fs[i]?=some (o,s,Q))(hs:0<s)(b off:Nat) : (Instr.fieldAt t (.pointer (some ⟨b,off,none⟩)) i).run P w=.ok (.pointer (some ⟨b,off+o,none⟩)) w:=by
 obtain⟨F,f,V,Y,Z,h4,M⟩:=MU h U;cases H:P.info? f.type with
 | none=>simp[H] at M
 | some J=>
  have s7:J.size=s:=by simpa[H] using M
  have K:¬ s=0:=by omega
  simp[Instr.fieldAt,Xa5 V,Y,Xbu,fieldPlace,sizeOf,typeInfo,H,s7,K,Z,Addr.ss]
def PQ (Q:rc P T){t i:Nat}{K:Nat->Nat->Nat->Prop}(h:MJ T t i K) :∃o s H fs,K o s H/\rW P t (.struct fs)/\fs[i]?=some (o,s,H)/\0<s:=by
 unfold MJ at h;split at h
 ·rename_i fs M;have J:(T.get t).kind.sG≠none:=by rw[M];simp[TK.sG]
  have F:=(Q.of J).kind;rw[M] at F;split at h
  ·rename_i o s H U;split at h
   ·exact h.elim
   rename_i V;exact⟨o,V+1,H,fs,h,F,U,Nat.succ_pos _⟩
  exact h.elim
 exact h.elim
def Fb {t e:Nat}(F:P.underlying t=some (.slice e)){i:TypeInfo}(H:P.info? e=some i)(b o n c:Nat)(k:IntKind)(j:Int)(h:0<=j/\j<n) : (Instr.indexAt t (.slice (some ⟨b,o,none⟩) n c) (.int k j)).run P w=.ok (.pointer (some ⟨b,o+j.toNat*i.size,none⟩)) w:=by simp[Instr.indexAt,Xa5 F,asIntOf,h,sizeOf,typeInfo,H,Addr.ss]
def JP {t e m:Nat}(F:P.underlying t=some (.array m e)){i:TypeInfo}(H:P.info? e=some i)(b o:Nat)(k:IntKind)(j:Int)(h:0<=j/\j<m) : (Instr.indexAt t (.pointer (some ⟨b,o,none⟩)) (.int k j)).run P w=.ok (.pointer (some ⟨b,o+j.toNat*i.size,none⟩)) w:=by simp[Instr.indexAt,Xa5 F,asIntOf,Xbu,h,sizeOf,typeInfo,H,Addr.ss]
def Ax {t:Nat}(h:A2 T t=true):(T.get t).kind.sG≠none:=by intro F;simp[A2,F] at h
def BA (F:rc P T){t e:Nat}(h:(T.get t).kind=.slice e):P.underlying t=some (.slice e):=by have:=(F.of (t:=t) (by rw[h];simp[TK.sG])).kind;rwa [h] at this
def NA (F:rc P T){t n e:Nat}(h:(T.get t).kind=.arr n e):P.underlying t=some (.array n e):=by have:=(F.of (t:=t) (by rw[h];simp[TK.sG])).kind;rwa [h] at this
def Lp {obl:O (C OB)}(hT:rc P T){t:Nat}{x y:AV}{vx vy:A}{K:AV->Prop}(hx:gM S w φ (λr=>obl.getD r none) x vx) (a7:gO (λr=>obl.getD r none) x) (hy:gM S w φ (λr=>obl.getD r none) y vy) (h:H5 T t x y obl K) : ∃out u,K out/\(Instr.indexAt t vx vy).run P w=.ok u w/\gM S w φ (λr=>obl.getD r none) out u/\gO (λr=>obl.getD r none) out:=by
 unfold H5 at h;split at h
 ·obtain rfl:=hy.int;rename_i k i;split at h
  ·rename_i e sz es hk;simp only[AH] at h;obtain⟨J,s7,hb,v,hv,al,hK⟩:=h;have M:=hT.of (Ax J);obtain⟨Y,z,F,Q,_⟩:=M.sV;have Z:sz=(T.get e).size:=X30 s7;cases hx with|d _ _ hx=>
   cases hx with
   | sB=>simp at hb;omega
   | su _ _ b o a6 f hl hc ae hS hn hr=>
    have a8:i.toNat<es.length:=by omega
    have ai:v=es[i.toNat]:=by rw[<- hv];simp[a8]
    subst ai;refine⟨_,_,hK,Fb (BA hT hk) F b o _ a6 k i hb,?_,λr hr=>by simp[AV.refs] at hr⟩;rw[Q,<- Z];exact .sT _ b _ (f i.toNat) (λj hj=>hS i.toNat j a8 (by rw[ae] at hj;exact hj)) (λj hj=>hn _ a8 j hj) λj hj=>hr _ a8 j hj
  ·rename_i e r n hk;rw[An] at h;obtain⟨o,ho,h⟩:=h;cases o with
   | box cs=>
    simp only[AH] at h;obtain⟨J,s7,rfl,hK⟩:=h;have M:=hT.of (Ax J);obtain⟨Y,z,F,Q,_⟩:=M.sV;cases hx with|own _ _ _ kk c a0 hv J h1 V=>
    obtain⟨rfl,b,c',a1,aj⟩:=V cs ho;rw[aj];refine⟨_,_,hK,Fb (BA hT hk) F b 0 1 1 k 0 (by omega),?_,λr' U=>a7 r' (by simpa[AV.refs] using U)⟩;have e0:(0:Nat)+(0:Int).toNat*Y.size=0:=by simp
    rw[e0];refine .ref r 0 b c' a1 λe2 af ag ah H=>?_;rw[ho] at H;simp at H
   | map=>simp at h
   | rK=>simp at h
   | gone=>simp at h
   | row e' sz es ak=>
    simp only[AH] at h;obtain⟨J,s7,hn,hb,hK⟩:=h;have M:=hT.of (Ax J);obtain⟨Y,z,F,Q,_⟩:=M.sV;have Z:sz=(T.get e).size:=X30 s7;cases hx with|own _ _ _ kk c a0 hv J h1 V=>
    rcases (h1 e' sz es ak ho).2 hn with ⟨a1,a2,_,rfl⟩|⟨b,a6,a1,rfl⟩
    ·omega
    refine⟨_,_,hK,Fb (BA hT hk) F b a6.2 n a6.1 k i (by omega),?_,λr' U=>a7 r' (by simpa[AV.refs] using U)⟩;rw[Q,<- Z,<- Xch (i.toNat*sz)];refine .sh r n i.toNat 0 _ (λe2 af ag ah H=>?_) (λcs H=>by rw[ho] at H;simp at H) ⟨_,rfl⟩;rw[ho] at H;simp only[X24,OB.row.injEq] at H;obtain⟨rfl,rfl,rfl,rfl⟩:=H;exact⟨by omega,λ_=>⟨by omega,b,a6,a1,rfl⟩⟩
  ·rename_i n e r off hk;simp only[AH] at h;obtain⟨J,_,⟨hb,hK⟩|⟨aa,hb,j,hj,hK⟩⟩:=h;rotate_left
   ·have M:=hT.of (Ax J);obtain⟨Y,z,F,Q,_⟩:=M.sV;have aa:=X30 aa;cases hx with|ref _ _ b c ab V=>
    refine⟨_,_,hK,JP (NA hT hk) F b off k i hb,?_,λr' U=>a7 r' (by simpa[AV.refs] using U)⟩;rw[Q,aa,Nat.mul_one,hj];exact .sh r n j off _ (λe2 af ag f2 H=>absurd H (V _ _ _ _)) (λcs H=>⟨b,c,ab,rfl⟩) ⟨_,rfl⟩
   have M:=hT.of (Ax J);obtain⟨Y,z,F,Q,_⟩:=M.sV;cases hx with|ref _ _ b c ab V=>
   refine⟨_,_,hK,JP (NA hT hk) F b off k i hb,?_,λr' U=>a7 r' (by simpa[AV.refs] using U)⟩;rw[Q];exact .ref r _ b c ab V
  exact h.elim
 exact h.elim
def NX {obl:O (C OB)}(hT:rc P T){t r a n m:Nat}{y:AV}{vx vy:A}{K:AV->Prop}(hx:gM S w φ (λr=>obl.getD r none) (.th r a n m) vx) (Q:gO (λr=>obl.getD r none) (.th r a n m)) (hy:gM S w φ (λr=>obl.getD r none) y vy) (h:I7 T t r a n m y obl K) : ∃out u,K out/\(Instr.indexAt t vx vy).run P w=.ok u w/\gM S w φ (λr=>obl.getD r none) out u/\gO (λr=>obl.getD r none) out:=by
 unfold I7 at h;split at h
 ·obtain rfl:=hy.int;rename_i kk i;split at h
  ·rename_i e hk;rw[An] at h;obtain⟨o,U,h⟩:=h;cases o with
   | box=>simp at h
   | map=>simp at h
   | rK=>simp at h
   | gone=>simp at h
   | row e' sz es V=>
    simp only[AH] at h;obtain⟨Y,s7,hn,hb,j,hj,hK⟩:=h;have Z:=hT.of (Ax Y);obtain⟨a1,z,J,a6,_⟩:=Z.sV;have M:sz=(T.get e).size:=X30 s7;cases hx with|th _ _ _ _ _ k c a0 hv a8 h1=>
    obtain⟨q1,q2,_⟩:=(h1 e' sz es V U).2 hn;rcases q2 with q2|⟨b,H,c',q2,q3,_⟩
    ·omega
    rw[q3];refine⟨_,_,hK,Fb (BA hT hk) J b (H.2+a*sz) n c' kk i (by omega),?_,λr' a7=>Q r' (by simpa[AV.refs] using a7)⟩;have e1:H.2+a*sz+i.toNat*a1.size=H.2+(j*sz+0):=by rw[a6,<- M,Xb9,<- X32,hj,Xch]
    rw[e1];refine .sh r m j 0 _ (λe2 ab ae aa F=>?_) (λcs F=>by rw[U] at F;simp at F) ⟨_,rfl⟩;rw[U] at F;simp only[X24,OB.row.injEq] at F;obtain⟨rfl,rfl,rfl,rfl⟩:=F;exact⟨by omega,λ_=>⟨by omega,b,H,q2,rfl⟩⟩
  exact h.elim
 exact h.elim
def N9 {obl:O (C OB)}(H:rc P T){t:Nat}{x y:AV}{J M:A}{K:AV->Prop}(Q:gM S w φ (λr=>obl.getD r none) x J) (F:gO (λr=>obl.getD r none) x) (U:gM S w φ (λr=>obl.getD r none) y M) (h:JC T t x y obl K) : ∃out u,K out/\(Instr.indexAt t J M).run P w=.ok u w/\gM S w φ (λr=>obl.getD r none) out u/\gO (λr=>obl.getD r none) out:=by
 unfold JC at h;split at h
 ·exact NX H Q F U h
 exact Lp H Q F U h
def KI {x:AV}{vx:A}{K:O AV->Prop}(M:gM S w φ ob x vx)(hc:gO ob x)(h:Ij x K) : ∃F vs,K F/\vx=.agg vs/\vs.size=F.length/\(∀i (H:i<F.length),∃u,vs[i]?=some u/\F[i].one=true/\gM S w φ ob F[i] u)/\∀c∈F,gO ob c:=by
 unfold Ij at h;split at h
 ·rename_i F;have J :∀(F:O D) (K:O AV->Prop),O1 (λc K=>K (AV.d c)) F K↔K (F.map .d):=by
   intro F;induction F with
   | nil=>intro K;simp[O1]
   | cons c F ih=>intro K;simp[O1,ih]
  rw[J] at h;cases M with|d _ _ M=>
  cases M with|agg _ vs f Q U V Y=>
  refine⟨_,vs,h,rfl,by simpa using Q,λi H=>⟨f i,U i (by simpa using H),?_,?_⟩,λc J=>?_⟩
  ·simpa[AV.one] using V i (by simpa using H)
  ·simpa using gM.d _ _ (Y i (by simpa using H))
  obtain⟨y,_,rfl⟩:=Xa0.1 J;exact A1 ob y
 ·rename_i F;cases M with|agg _ vs f Q U V Y=>
  refine⟨F,vs,h,rfl,Q,λi H=>⟨f i,U i H,V i H,Y i H⟩,λc J r Z=>?_⟩;obtain⟨j,hj,rfl⟩:=Wz J;exact hc r (AV.rv F j hj r Z)
 exact h.elim
def Uh (hT:rc P T){t off:Nat}{H:O AV}{vs:Array A}{K:AV->Prop}(hs:vs.size=H.length)(U :∀i (V:i<H.length),∃u,vs[i]?=some u/\H[i].one=true/\gM S w φ ob H[i] u) (Y :∀c∈H,gO ob c) (h:Yf T t H off K) :∃out u,K out/\(part t vs off).run P w=.ok u w/\gM S w φ ob out u/\gO ob out:=by
 unfold Yf at h;cases F:(T.get t).kind.sG with
 | none=>simp[F] at h
 | some q=>
  have J:=hT.of (t:=t) (by rw[F];simp);cases q with
  | true=>
   simp only[F,GR,AH,FT,GP,Nat.ble_eq,X17] at h;refine⟨_,_,h.2,Iw J F,?_,H9 λc hm=>Y c (List.mem_of_mem_drop (Xce hm))⟩;refine M9 (by simp[hs];omega) λi V=>?_;simp only[X18,X17] at V;obtain⟨u,M,Z,Q⟩:=U (off+i) (by omega);refine⟨u,?_,?_,?_⟩
   ·rw[Array.getElem?_extract,Xy (by omega)];exact M
   ·simpa[Xbg,Xbh] using Z
   simpa[Xbg,Xbh] using Q
  | false=>
   simp only[F] at h;cases hg:H[off]? with
   | none=>simp[hg] at h
   | some x=>simp only[hg,BH] at h;obtain⟨p1,p2⟩:=X16.1 hg;obtain⟨d,hu,hd⟩:=J.kind.plain F;obtain⟨u,M,Z,Q⟩:=U off p1;exact⟨x,u,h,run_part_plain hu hd M,p2▸Q,Y x (Xay hg)⟩
def UD (M:rc P T){t i:Nat}{x:AV}{Q:A}{K:AV->Prop}(V:gM S w φ ob x Q)(Y:gO ob x)(h:Tu T t i x K) : ∃out u,K out/\(Instr.field t Q i).run P w=.ok u w/\gM S w φ ob out u/\gO ob out:=by
 unfold Tu at h;split at h
 ·rename_i fs U;have H:=(M.of (t:=t) (by rw[U];simp[TK.sG])).kind;rw[U] at H;split at h
  ·rename_i o s ft Z;obtain⟨cs,vs,hK,rfl,hs,hr,J⟩:=KI V Y h;obtain⟨F,f,h1,h2,h3,h4,h5⟩:=MU H Z;obtain⟨out,u,g1,g2,g3,g4⟩:=Uh M hs hr J hK;refine⟨out,u,g1,?_,g3,g4⟩;simp only[Instr.field,Xa9,Xa5 h1,Xa1,h2,asAgg,Xbz,h3,h4,g2]
  exact h.elim
 exact h.elim
def UR (Y:rc P T){t:Nat}{x y:AV}{vx vy:A}{K:AV->Prop}(hx:gM S w φ ob x vx)(hc:gO ob x)(hy:gM S w φ ob y vy)(h:TR T t x y K) : ∃out u,K out/\(Instr.index t vx vy).run P w=.ok u w/\gM S w φ ob out u/\gO ob out:=by
 unfold TR at h;split at h
 ·obtain rfl:=hy.int;rename_i k i;split at h
  ·rename_i s V;have F:=(Y.of (t:=t) (by rw[V];simp[TK.sG])).kind;rw[V] at F;simp only[rW] at F;obtain rfl:=hx.str;obtain⟨Z,c,a1,H⟩:=h;refine⟨_,.int .u8 c.toNat,H,?_,.d _ _ (.val _ rfl),A1 _ _⟩;have J:i.toNat<s.size:=by omega
   have:s[i.toNat]?=some c:=by
    have h1:s.toList.getD i.toNat 0=s[i.toNat]:=by
     rw[Xd8];have hl:i.toNat<s.data.toList.length:=by rw[Xal];exact J
     rw[Wq,X15 hl];rfl
    rw[<- a1,h1];exact getElem?_pos s i.toNat J
   simp only[Instr.index,asIntOf,Xa9,Xbz,Xa1,Xa5 F,Xy Z.1,this]
  ·rename_i n e V;obtain⟨cs,vs,H,rfl,hs,hr,a6⟩:=KI hx hc h;obtain⟨Z,H⟩:=H;split at H
   ·rename_i M;obtain⟨a,ha,H⟩:=H;rw[BH] at H;have Q:=Y.of (t:=e) (by rw[M];simp);obtain⟨d,hu,hd⟩:=Q.kind.plain M;obtain⟨a8,z,U,a7,_⟩:=Q.sV;obtain⟨p1,p2⟩:=X16.1 ha;obtain⟨u,h1,h2,h3⟩:=hr _ p1;refine⟨a,u,H,?_,p2▸h3,a6 a (Xay ha)⟩;have e1:(sizeOf e).run P w=.ok (T.get e).size w:=by simp[sizeOf,typeInfo,U,a7]
    have e2:=run_part_plain (w:=w) hu hd h1;have e3:=Xa5 (NA Y V) w;simp only[Instr.index,asIntOf,Xa9,Xbz,Xa1,e3,Xy Z,e1,e2]
   exact H.elim
  exact h.elim
 exact h.elim
end
end Go.AX
end
