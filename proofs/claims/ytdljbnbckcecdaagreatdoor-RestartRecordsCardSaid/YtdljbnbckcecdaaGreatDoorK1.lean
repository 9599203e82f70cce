/-
  Texts of one proof, packed: AxS AxM Ax8 Ax9 Ax10 Ax11.
-/
import Derived.Test.YtdljbnbckcecdaaGreatDoorK0
import Derived.Deep.LoopGhost
import Derived.Laws.DeepStrings4
import Derived.Laws.MakeOwn
import Derived.MapKept
set_option linter.all false
open List renaming length_map→X10,length_append→X11,length_cons→X12,length_nil→X13,mem_singleton→X14,getElem?_eq_getElem→X15,getElem?_eq_some_iff→X16,length_drop→X17,length_take→X18,mem_cons_of_mem→X19,length_replicate→X20,length_set→X21,length_singleton→X22,mem_append→X23
open Option.some renaming injEq→X24,inj→X25
open Prod.mk renaming injEq→X26
open Bool renaming and_eq_true→X27,eq_iff_iff→X28
open Nat renaming le_of_ble_eq_true→X29,eq_of_beq_eq_true→X30,mul_le_mul_right→X31,add_mul→X32
section
namespace Go.AX
section
variable {P:Program} {T:TT} {E:Env} {w:World} {S:Sc} {φ:Nat->Option (Nat×Rp)} {ob:Nat->Option OB}
theorem WF {sz:Nat} {d:D} {lo hi:Option AV} {K:AV->Prop} (h:Jt sz d lo hi K) :∃(es:List D) (l h':Int),d=.lst sz es/\
  (lo=none/\l=0 \/∃k,lo=some (.d (.val (.int k l))))/\(hi=none/\h'=es.length \/∃k,hi=some (.d (.val (.int k h'))))/\0<=l/\l<=h'/\h'<=es.length/\K (.d (.lst sz ((es.drop l.toNat).take (h'.toNat - l.toNat)))):=by
 cases d with
 | lst sz' es=>
  simp only[Jt,AH] at h
  obtain⟨h1,h⟩:=h
  have h1:=X30 h1
  subst h1
  have b :∀(o:Option AV) (dflt:Int) (K:Int->Prop),Dc o dflt K->∃i,(o=none/\i=dflt \/∃k,o=some (.d (.val (.int k i))))/\K i:=by
   intro o dflt K hk
   unfold Dc at hk
   split at hk
   ·exact⟨dflt,.inl ⟨rfl,rfl⟩,hk⟩
   ·exact⟨_,.inr ⟨_,rfl⟩,hk⟩
   exact hk.elim
  obtain⟨l,hl,h⟩:=b _ _ _ h
  obtain⟨u,hu,h⟩:=b _ _ _ h
  obtain⟨⟨c1,c2,c3⟩,ys,rfl,hK⟩:=h
  exact⟨es,l,u,rfl,hl,hu,c1,c2,c3,hK⟩
 | _=>simp[Jt] at h
theorem RepD.part {sz:Nat} {es:List D} {a:Option Addr} {n cap l h:Nat} (hr:RepD S w (.lst sz es) (.slice a n cap)) (h1:l<=h) (h2:h<=es.length) :
  n=es.length/\n<=cap/\RepD S w (.lst sz ((es.drop l).take (h - l))) (.slice (if cap=l then a else a.map (·.add (l * sz))) (h - l) (cap - l)):=by
 cases hr with
 | lst0=>
  have:h=0:=by simpa using h2
  subst this
  have:l=0:=by omega
  subst this
  exact⟨rfl,Nat.zero_le _,by simpa using RepD.lst0 _ _ _⟩
 | lst _ _ b o _ f hl hc hsz hS hn hr=>
  refine⟨rfl,hc,?_⟩
  by_cases e:h=l
  ·subst e
   simp only[Nat.sub_self,List.take_zero]
   exact .lst0 _ _ _
  have hne:¬ cap=l:=by omega
  rw[if_neg hne]
  have hlen:((es.drop l).take (h - l)).length=h - l:=by simp;omega
  have hget :∀i (hi:i<((es.drop l).take (h - l)).length),((es.drop l).take (h - l))[i]=es[l + i]'(by omega):=by
   intro i hi;simp
  have:=RepD.lst (S:=S) (w:=w) sz ((es.drop l).take (h - l)) b (o + l * sz) (cap - l) (fun i j=>f (l + i) j) (by omega) (by omega) (fun i hi=>by rw[hget i hi];exact hsz _ _) (fun i j hi hj=>?_) (fun i hi j hj=>?_) (fun i hi j hj=>?_)
  ·rw[hlen] at this
   simpa only[Option.map_some,Addr.add_none] using this
  ·rw[hlen] at hi
   have:=hS (l + i) j (by omega) hj
   have e2:o + (l + i) * sz + j=o + l * sz + i * sz + j:=by rw[X32];omega
   rwa [e2] at this
  ·have:=hget i hi
   simp only[this] at hj ⊢
   exact hn (l + i) (by omega) j hj
  have:=hget i hi
  simp only[this] at hj ⊢
  exact hr (l + i) (by omega) j hj
theorem E0 {k:IntKind} {i:Int} {y:Nat} {c:BoundsCode} (h:0<=i/\i<=y):(Instr.sliceBound (.int k i) y c).run P w=.ok i.toNat w:=by
 unfold Instr.sliceBound
 simp[asIntOf,h.1,h.2]
theorem HG {t e:Nat} {ie:TypeInfo} (hk:P.underlying t=some (.slice e)) (hi:P.info? e=some ie) {a:Option Addr} {len cap:Nat} {lo hi':Option Value} {l h:Nat}
  (hl:lo=none/\l=0 \/∃k,lo=some (.int k (l:Int))) (hh:hi'=none/\h=len \/∃k,hi'=some (.int k (h:Int))) (h1:l<=h) (h2:h<=len) (h3:len<=cap) :
  (Instr.sliceAt t (.slice a len cap) lo hi' none).run P w=.ok (.slice (if cap=l then a else a.map (·.add (l * ie.size))) (h - l) (cap - l)) w:=by
 unfold Instr.sliceAt
 have hb:(Instr.sliceBounds true len cap lo hi' none).run P w=.ok (l,h,cap) w:=by
  unfold Instr.sliceBounds
  rcases hl with ⟨rfl,rfl⟩|⟨k,rfl⟩<;>rcases hh with ⟨rfl,rfl⟩|⟨k',rfl⟩
  ·simp
  ·simp[Sem.run_bind,E0 (P:=P) (w:=w) (k:=k') (c:=.sliceAcap) (i:=(h:Int)) (y:=cap) ⟨by omega,by omega⟩]
  ·simp[Sem.run_bind,E0 (P:=P) (w:=w) (k:=k) (c:=.sliceB) (i:=(l:Int)) (y:=h) ⟨by omega,by omega⟩]
  simp[Sem.run_bind,E0 (P:=P) (w:=w) (k:=k') (c:=.sliceAcap) (i:=(h:Int)) (y:=cap) ⟨by omega,by omega⟩,E0 (P:=P) (w:=w) (k:=k) (c:=.sliceB) (i:=(l:Int)) (y:=h) ⟨by omega,by omega⟩]
 simp[Sem.run_bind,run_underlying hk,Instr.slice,hb,sizeOf,typeInfo,hi]
theorem Qj {t:Nat} (hk:P.underlying t=some .string) {s:ByteArray} {lo hi':Option Value} {l h:Nat}
  (hl:lo=none/\l=0 \/∃k,lo=some (.int k (l:Int))) (hh:hi'=none/\h=s.size \/∃k,hi'=some (.int k (h:Int))) (h1:l<=h) (h2:h<=s.size) :
  (Instr.sliceAt t (.string s) lo hi' none).run P w=.ok (.string (s.extract l h)) w:=by
 unfold Instr.sliceAt
 have hb:(Instr.sliceBounds false s.size s.size lo hi' none).run P w=.ok (l,h,s.size) w:=by
  unfold Instr.sliceBounds
  rcases hl with ⟨rfl,rfl⟩|⟨k,rfl⟩<;>rcases hh with ⟨rfl,rfl⟩|⟨k',rfl⟩
  ·simp
  ·simp[Sem.run_bind,E0 (P:=P) (w:=w) (k:=k') (c:=.sliceAlen) (i:=(h:Int)) (y:=s.size) ⟨by omega,by omega⟩]
  ·simp[Sem.run_bind,E0 (P:=P) (w:=w) (k:=k) (c:=.sliceB) (i:=(l:Int)) (y:=s.size) ⟨by omega,by omega⟩]
  simp[Sem.run_bind,E0 (P:=P) (w:=w) (k:=k') (c:=.sliceAlen) (i:=(h:Int)) (y:=s.size) ⟨by omega,by omega⟩,E0 (P:=P) (w:=w) (k:=k) (c:=.sliceB) (i:=(l:Int)) (y:=h) ⟨by omega,by omega⟩]
 simp[Sem.run_bind,run_underlying hk,Instr.slice,hb]
theorem Je {z:D} {v:Value} (h:IB z v):z.isAgg=false/\RepD S w z v:=by
 cases z with
 | val u=>obtain⟨rfl,h2⟩:=h;exact⟨rfl,.val _ h2⟩
 | nil sz=>simp only[IB] at h;subst h;exact⟨rfl,.nil _⟩
 | _=>simp[IB] at h
theorem U8 {obl:List (Option OB)} (hT:TabOk P T) (m:Mem E w S φ (fun r=>obl.getD r none)) {t self:Nat} {n c:AV} {vn vc:Value} {K:AV->W->Prop}
  (hn:RepA S w φ (fun r=>obl.getD r none) n vn) (hc:RepA S w φ (fun r=>obl.getD r none) c vc) (h:UN T t self n c obl K) :
  ∃out wr u w',K out wr/\(∀r o,(r,o) ∈ wr->r<obl.length)/\(Instr.makeSlice t vn vc).run P w=.ok u w'/\Post E w S φ (fun r=>obl.getD r none) out wr u w':=by
 unfold UN at h
 split at h
 ·rename_i e n c hk
  rw[B2,AH,X27,X27] at h
  obtain⟨hself,⟨⟨hkn,hc1⟩,hs1c⟩,⟨b1,b2,b3,b4⟩,z,hz,zs,hzs,hK⟩:=h
  have hpos:0<(T.get e).size:=X29 hc1
  obtain⟨hs1,hs2⟩:=CN hself
  have hte:=hT.of (Ax hkn)
  obtain⟨ie,z0,hie,hi1,hi2,hz0,hz1,hz2,hz3⟩:=hte.info
  obtain rfl:=hn.int;obtain rfl:=hc.int
  have hrun:=run_make (P:=P) w t e ie z0 (A2 hT hk) hie hz0 .i64 .i64 n c b1 b2 (by
   rw[hi2]
   have:((T.get e).bytes:Int) * c<=65536 * 1048576:=Int.mul_le_mul (by omega) b3 (by omega) (by omega)
   omega) (by omega)
  have hzc:z.cells=(T.get e).zero.map fun x=>match x with
    | .nil sz=>.lst sz []
    | x=>x:=by
   rw[<- hz]
   split
   ·rfl
   rename_i hcl
   have h1:(T.get e).size=1:=by
    split at hs1c
    ·rename_i hq;exact absurd hq hcl
    exact X30 hs1c
   have hl:(T.get e).zero.length=1:=by omega
   obtain⟨x,hx⟩:=List.length_eq_one_iff.1 hl
   have hna :∀y ∈ (T.get e).zero,y.isAgg=false:=by
    intro y hy
    obtain⟨j,hj,rfl⟩:=List.getElem_of_mem hy
    have hj1:j<z0.cells.size:=by omega
    exact (Je (S:=S) (w:=w) (hz3 j hj z0.cells[j] (by simp[hj1]))).1
   rw[hx] at hna ⊢
   have:=hna x (by simp)
   cases x<;>first | rfl | simp[D.isAgg] at this
  have hzl:z.cells.length=(T.get e).size:=by rw[hzc];simp[hz2]
  have hcell :∀j (hj:j<z.cells.length),∃u,z0.cells[j]?=some u/\z.cells[j].isAgg=false/\RepD S w z.cells[j] u:=by
   intro j hj
   have hj0:j<(T.get e).zero.length:=by rw[hzl] at hj;omega
   have hj1:j<z0.cells.size:=by omega
   have hx0:=hz3 j hj0 z0.cells[j] (by simp[hj1])
   refine⟨z0.cells[j],by simp[hj1],?_⟩
   have e1:z.cells[j]=(match (T.get e).zero[j] with
    | .nil sz=>.lst sz []
    | x=>x):=by simp[hzc]
   rw[e1]
   obtain⟨a1,a2⟩:=Je (S:=S) (w:=w) hx0
   cases hq:(T.get e).zero[j] with
   | nil sz=>
    rw[hq] at a2
    generalize z0.cells[j]=u at a2 ⊢
    cases a2
    exact⟨rfl,.lst0 _ _ _⟩
   | val v=>rw[hq] at a1 a2;exact⟨a1,a2⟩
   | agg cs=>rw[hq] at a1;simp[D.isAgg] at a1
   | lst sz es=>rw[hq] at a1 a2;exact⟨rfl,a2⟩
  subst hzs
  have hzn :∀i (hi:i<(List.replicate n.toNat z).length),(List.replicate n.toNat z)[i]=z:=by intro i hi;simp
  refine⟨_,_,_,_,hK,fun r o hm=>?_,hrun,?_⟩
  ·simp only[X14,X26] at hm
   rw[hm.1];exact hs2
  have hsz:(madeCells z0.cells (c.toNat * ie.size)).size=c.toNat * (T.get e).size:=by rw[size_madeCells,hi1]
  have hat :∀i j,i<n.toNat->j<(T.get e).size->(madeCells z0.cells (c.toNat * ie.size))[i * (T.get e).size + j]?=z0.cells[j]?:=by
   intro i j hi hj
   have hlt:(i + 1) * (T.get e).size<=c.toNat * (T.get e).size:=X31 _ (by omega)
   rw[X32] at hlt
   have hlt2:i * (T.get e).size + j<(madeCells z0.cells (c.toNat * ie.size)).size:=by omega
   rw[Array.getElem?_eq_getElem hlt2]
   have hm:(i * (T.get e).size + j) % z0.cells.size=j:=by rw[hz1,Nat.mul_comm,Nat.mul_add_mod,Nat.mod_eq_of_lt hj]
   have hj1:j<z0.cells.size:=by omega
   simp only[madeCells,Array.getElem_map,Array.getElem_range,hm]
   simp[hj1]
  obtain⟨m2,k2⟩:=m.alloc self (c.toNat,0) (.row e (T.get e).size (List.replicate n.toNat z) .no) (madeCells z0.cells (c.toNat * ie.size)) e hs1 (fun r hr=>by simp[OB.refs] at hr) (fun hk2=>by
   refine⟨hpos,fun i hi=>by rw[hzn i hi];exact hzl,fun i hi j hj=>?_,.inr ⟨w.heap.size,(c.toNat,0),madeCells z0.cells (c.toNat * ie.size),fun i j=>z0.cells.getD j undef,upd_same _ _ _,heap_alloc_new w _,by simp;omega,?_,Nat.le_of_eq ((Nat.zero_add _).trans hsz.symm),fun i j hi hj=>?_,fun i hi j hj=>?_,fun o _ ho=>absurd (m.bS _ _ ho) (Nat.lt_irrefl _),fun _ _ _ _ h=>nomatch h⟩⟩
   ·have:=hzn i hi
    simp only[this] at hj ⊢
    exact (hcell j hj).choose_spec.2.1
   ·simp only[maxLen];omega
   ·simp only[X20] at hi
    simp only[Nat.zero_add]
    rw[hat i j hi hj]
    have hj1:j<z0.cells.size:=by omega
    simp[hj1]
   have:=hzn i hi
   simp only[this] at hj ⊢
   obtain⟨u,q1,q2,q3⟩:=hcell j hj
   have:z0.cells.getD j undef=u:=by simp[q1]
   rw[this]
   exact q3.mono hk2.k)
  refine⟨S,_,m2,k2,?_,?_⟩
  ·refine .own self _ _ n.toNat c.toNat (some ⟨w.heap.size,0,none⟩) rfl (by simp) (fun e2 sz2 es2 f2 hx2=>?_) (fun cs hx2=>?_)
   ·simp only[Ai,upd_same,X24,OB.row.injEq] at hx2
    obtain⟨rfl,rfl,rfl,rfl⟩:=hx2
    exact⟨by simp,fun _=>.inr ⟨_,_,upd_same _ _ _,by simp⟩⟩
   simp[Ai] at hx2
  intro r hr
  simp only[AV.refs,X14] at hr
  subst hr
  simp[Ai]
 exact h.elim
end
end Go.AX
end
section
namespace Go.AX
open MapKept
section
variable {P:Program} {T:TT} {E:Env} {w:World} {S:Sc} {φ:Nat->Option (Nat×Rp)} {ob:Nat->Option OB}
theorem Jc (hT:TabOk P T) {k:Nat} (hk:H5 (T.get k).kind=true) (hkn:BD T k=true) :∃d,P.underlying k=some d/\(∀u,IA (T.get k).kind u=true->IsKey d u)/\
  ∀(u u':Value) (b:Bool),Dt (T.get k).kind (.val u) (.val u')=some b->Instr.sameNow d u u'=some b/\(b=true->u'=u):=by
 have h:=(hT.of (Ax hkn)).kind
 cases hq:(T.get k).kind<;>simp[hq,H5] at hk<;>rw[hq] at h<;>simp only[KindOk] at h
 ·refine⟨_,h,fun u hu=>by cases u<;>simp[IA] at hu<;>simp[IsKey],fun u u' b hb=>?_⟩
  cases u<;>cases u'<;>simp[Dt] at hb
  subst hb
  exact⟨rfl,fun e=>by simp at e;rw[e]⟩
 ·rename_i kk
  refine⟨_,h,fun u hu=>by cases u<;>simp[IA] at hu<;>simp[IsKey,hu],fun u u' b hb=>?_⟩
  cases u<;>cases u'<;>simp[Dt] at hb
  obtain⟨rfl,rfl⟩:=hb
  exact⟨by simp[Instr.sameNow],fun e=>by simp at e;rw[e]⟩
 refine⟨_,h,fun u hu=>by cases u<;>simp[IA] at hu<;>simp[IsKey],fun u u' b hb=>?_⟩
 cases u<;>cases u'<;>simp[Dt] at hb
 subst hb
 exact⟨rfl,fun e=>by rw[(bytes_beq _ _).1 e]⟩
theorem EntsOK.tail {p:D×D} {es:List (D×D)} {x:MapEntry} {l:List MapEntry} (h:EntsOK S w (p::es) (x::l)):(∃u,p.1=.val u/\x.key=u/\u.oneCell'=true)/\RepD S w p.2 x.val/\EntsOK S w es l:=by
 obtain⟨h1,h2⟩:=h
 obtain⟨y,e,a,b⟩:=h2 0 (by simp)
 simp at e
 subst e
 refine⟨a,b,by simpa using h1,fun i hi=>?_⟩
 obtain⟨y,e,a,b⟩:=h2 (i + 1) (by simpa using hi)
 exact⟨y,by simpa using e,a,b⟩
theorem Le {tk:TK} {d:TypeDesc} {u:Value} (hd :∀(u':Value) (b:Bool),Dt tk (.val u) (.val u')=some b->Instr.sameNow d u u'=some b/\(b=true->u'=u)) :
  ∀(es:List (D×D)) (l:List MapEntry) (off:Nat) (q:Option D),EntsOK S w es l->BL tk (.val u) es=some q->
   (q=none/\Instr.findNow d u l off=some none/\∀v,FH tk (.val u) v es=some (es++[(.val u,v)])) \/
   ∃j x v,q=some v/\l[j]?=some x/\x.key=u/\j<es.length/\RepD S w v x.val/\Instr.findNow d u l off=some (some (off + j,x.val))/\∀v,FH tk (.val u) v es=some (es.set j (.val u,v))
 | [],[],off,q,_,hq=>by simp[BL] at hq;exact .inl ⟨hq.symm,rfl,fun v=>rfl⟩
 | [],_::_,_,_,h,_=>by simp[EntsOK] at h
 | _::_,[],_,_,h,_=>by simp[EntsOK] at h
 | p::es,x::l,off,q,h,hq=>by
  obtain⟨⟨u',e1,e2,_⟩,hv,ht⟩:=h.tail
  simp only[BL,e1] at hq
  cases hb:Dt tk (.val u) (.val u') with
  | none=>simp[hb] at hq
  | some b=>
   obtain⟨s1,s2⟩:=hd u' b hb
   cases b with
   | true=>
    simp only[hb,X24] at hq
    exact .inr ⟨0,x,p.2,hq.symm,rfl,by rw[e2];exact s2 rfl,by simp,hv,by simp[Instr.findNow,e2,s1],fun v=>by simp[FH,e1,hb]⟩
   | false=>
    simp only[hb] at hq
    rcases Le hd es l (off + 1) q ht hq with ⟨g1,g2,g3⟩|⟨j,y,v,g1,g2,g3,g4,g5,g6,g7⟩
    ·exact .inl ⟨g1,by simp[Instr.findNow,e2,s1,g2],fun v=>by simp[FH,e1,hb,g3]⟩
    exact .inr ⟨j + 1,y,v,g1,by simpa using g2,g3,by simp;omega,g5,by simp[Instr.findNow,e2,s1,g6];omega,fun v=>by simp[FH,e1,hb,g7]⟩
theorem QG {tk:TK} {x v:D} :∀{es zs:List (D×D)},FH tk x v es=some zs->∃q,BL tk x es=some q
 | [],_,_=>⟨none,rfl⟩
 | p::es,zs,h=>by
  simp only[FH] at h
  simp only[BL]
  cases hb:Dt tk x p.1 with
  | none=>simp[hb] at h
  | some b=>
   cases b with
   | true=>exact⟨_,rfl⟩
   | false=>
    simp only[hb,Option.map_eq_some_iff] at h
    obtain⟨zs',h1,_⟩:=h
    exact QG h1
theorem O9 {r k e:Nat} {es:List (D×D)} (h:ObjOK S w φ ob r (.map k e es)) :∃b c arr clock,φ r=some (b,c)/\w.heap[b]?=some (.map arr clock)/\((∀o,¬ S b o)/\BornOK arr clock)/\EntsOK S w es arr.toList:=by
 obtain⟨b,c,arr,clock,h1,h2,h3,h4,h5⟩:=h
 exact⟨b,c,arr,clock,h1,h2,⟨h4,h3.2⟩,by simpa using h3.1,fun i hi=>by simpa using h5 i hi⟩
theorem NZ {r k e r' n:Nat} {kv:Value} {es:List (D×D)} (h:ObjOK S w φ ob r (.amap k e es kv r' n)) :∃b c arr clock,φ r=some (b,c)/\w.heap[b]?=some (.map arr clock)/\((∀o,¬ S b o)/\BornOK arr clock)/\EntsOK S w es arr.toList/\
  AliasP kv (RepA S w φ ob (.own r' n)) arr.toList:=by
 obtain⟨b,c,arr,clock,h1,h2,h3,h4,h5,h6⟩:=h
 exact⟨b,c,arr,clock,h1,h2,⟨h4,h3.2⟩,⟨by simpa using h3.1,fun i hi=>by simpa using h5 i hi⟩,h6⟩
theorem I3 (tk:TK) (u:Value):Dt tk (.val u) (.val u)≠some false:=by
 cases tk<;>cases u<;>simp[Dt]
 exact (bytes_beq _ _).2 rfl
theorem Ni {tk:TK} {d:TypeDesc} {u:Value} {Q:Value->Prop} (hd :∀(u':Value) (b:Bool),Dt tk (.val u) (.val u')=some b->Instr.sameNow d u u'=some b/\(b=true->u'=u)) :
  ∀(es:List (D×D)) (l:List MapEntry) (off:Nat) (q:Option D),EntsOK S w es l->BL tk (.val u) es=some q->AliasP u Q l->(q=none->Q (.slice none 0 0))/\∀p,Instr.findNow d u l off=some (some p)->Q p.2
 | [],[],off,q,_,hq,ha=>⟨fun _=>ha,fun p hp=>by simp[Instr.findNow] at hp⟩
 | [],_::_,_,_,h,_,_=>by simp[EntsOK] at h
 | _::_,[],_,_,h,_,_=>by simp[EntsOK] at h
 | p::es,x::l,off,q,h,hq,ha=>by
  obtain⟨⟨u',e1,e2,_⟩,hv,ht⟩:=h.tail
  simp only[BL,e1] at hq
  cases hb:Dt tk (.val u) (.val u') with
  | none=>simp[hb] at hq
  | some b=>
   obtain⟨s1,s2⟩:=hd u' b hb
   cases b with
   | true=>
    simp only[hb,X24] at hq
    refine⟨fun e=>by rw[<- hq] at e;simp at e,fun p hp=>?_⟩
    simp only[Instr.findNow,e2,s1,X24] at hp
    rw[<- hp]
    exact ha.1 (by rw[e2];exact s2 rfl)
   | false=>
    simp only[hb] at hq
    have hne:x.key≠u:=fun he=>by rw[<- e2,he] at hb;exact I3 _ _ hb
    obtain⟨g1,g2⟩:=Ni hd es l (off + 1) q ht hq (ha.2 hne)
    exact⟨g1,fun p hp=>g2 p (by simpa[Instr.findNow,e2,s1] using hp)⟩
theorem NX {tk:TK} {d:TypeDesc} {u:Value} {Q:Value->Prop} (hd :∀(u':Value) (b:Bool),Dt tk (.val u) (.val u')=some b->Instr.sameNow d u u'=some b/\(b=true->u'=u)) {y:MapEntry} (hy:y.key=u) (hQ:Q y.val)
  {f:MapEntry->MapEntry} (hf :∀x,(f x).key=u/\Q (f x).val) :
  ∀(es:List (D×D)) (l:List MapEntry) (off:Nat) (q:Option D),EntsOK S w es l->BL tk (.val u) es=some q->
   (q=none->AliasP u Q (l++[y]))/\∀j v,Instr.findNow d u l off=some (some (off + j,v))->AliasP u Q (l.modify j f)
 | [],[],off,q,_,hq=>⟨fun _=>⟨fun _=>hQ,fun e=>absurd hy e⟩,fun j v hp=>by simp[Instr.findNow] at hp⟩
 | [],_::_,_,_,h,_=>by simp[EntsOK] at h
 | _::_,[],_,_,h,_=>by simp[EntsOK] at h
 | p::es,x::l,off,q,h,hq=>by
  obtain⟨⟨u',e1,e2,_⟩,hv,ht⟩:=h.tail
  simp only[BL,e1] at hq
  cases hb:Dt tk (.val u) (.val u') with
  | none=>simp[hb] at hq
  | some b=>
   obtain⟨s1,s2⟩:=hd u' b hb
   cases b with
   | true=>
    simp only[hb,X24] at hq
    refine⟨fun e=>by rw[<- hq] at e;simp at e,fun j v hp=>?_⟩
    simp only[Instr.findNow,e2,s1,X24,X26] at hp
    obtain rfl:j=0:=by omega
    simp only[List.modify_zero_cons]
    exact⟨fun _=>(hf x).2,fun e=>absurd (hf x).1 e⟩
   | false=>
    simp only[hb] at hq
    have hne:x.key≠u:=fun he=>by rw[<- e2,he] at hb;exact I3 _ _ hb
    obtain⟨g1,g2⟩:=NX hd hy hQ hf es l (off + 1) q ht hq
    refine⟨fun e=>⟨fun e'=>absurd e' hne,fun _=>g1 e⟩,fun j v hp=>?_⟩
    simp only[Instr.findNow,e2,s1] at hp
    cases j with
    | zero=>
     have hge :∀(l:List MapEntry) (o:Nat) (p:Nat×Value),Instr.findNow d u l o=some (some p)->o<=p.1:=by
      intro l
      induction l with
      | nil=>intro o p h;simp[Instr.findNow] at h
      | cons a l ih=>
       intro o p h
       simp only[Instr.findNow] at h
       split at h
       ·simp only[X24] at h;rw[<- h];exact Nat.le_refl _
       ·exact Nat.le_of_succ_le (ih _ _ h)
       simp at h
     have:=hge l (off + 1) _ hp
     exact absurd this (by simp)
    | succ j=>
     simp only[List.modify_succ_cons]
     exact⟨fun e'=>absurd e' hne,fun _=>g2 j v (by rw[hp];congr 3;omega)⟩
theorem Is {tk:TK} {u:Value} {Q:Value->Prop} (hr:Dt tk (.val u) (.val u)≠some false) :∀(es:List (D×D)) (l:List MapEntry),EntsOK S w es l->BL tk (.val u) es=some none->Q (.slice none 0 0)->AliasP u Q l
 | [],[],_,_,hQ=>hQ
 | [],_::_,h,_,_=>by simp[EntsOK] at h
 | _::_,[],h,_,_=>by simp[EntsOK] at h
 | p::es,y::l,h,hq,hQ=>by
  obtain⟨⟨u',e1,e2,_⟩,hv,ht⟩:=h.tail
  simp only[BL,e1] at hq
  cases hb:Dt tk (.val u) (.val u') with
  | none=>simp[hb] at hq
  | some b=>
   cases b with
   | true=>simp[hb] at hq
   | false=>
    simp only[hb] at hq
    exact⟨fun he=>by rw[<- e2,he] at hb;exact absurd hb hr,fun _=>Is hr es l ht hq hQ⟩
theorem XX (hT:TabOk P T) {e:Nat} (hkn:BD T e=true) (hs:Pz T e=true):(zeroValue e).run P w=.ok (.slice none 0 0) w:=by
 obtain⟨ie,z0,hie,hi1,hi2,hz0,hz1,hz2,hz3⟩:=(hT.of (Ax hkn)).info
 obtain⟨a1,a2⟩:=(hT.of (Ax hkn)).aggz ie z0 hie hz0
 unfold Pz at hs
 split at hs
 ·rename_i q s h1 h2
  have hna:=a2 (by rw[h1];rfl)
  have hz:z0.cells=#[z0]:=by cases z0<;>first | rfl | exact absurd rfl (hna _)
  have:=hz3 0 (by rw[h2];simp) z0 (by rw[hz];rfl)
  simp only[h2,List.getElem_cons_zero,IB] at this
  subst this
  simp[zeroValue,typeInfo,hie,hz0]
 simp at hs
theorem NU (hT:TabOk P T) {e:Nat} (hkn:BD T e=true) (hpos:0<(T.get e).size) (h1:Ov T e=true) :∃z,(zeroValue e).run P w=.ok z w/\RepD S w (Ly T e) z:=by
 obtain⟨ie,z0,hie,hi1,hi2,hz0,hz1,hz2,hz3⟩:=(hT.of (Ax hkn)).info
 refine⟨z0,by simp[zeroValue,typeInfo,hie,hz0],?_⟩
 unfold Ly
 refine RepD.norm ?_
 obtain⟨a1,a2⟩:=(hT.of (Ax hkn)).aggz ie z0 hie hz0
 have hcell :∀j (hj:j<(T.get e).zero.length),∃u,z0.cells[j]?=some u/\(T.get e).zero[j].isAgg=false/\RepD S w (T.get e).zero[j] u:=by
  intro j hj
  have hj1:j<z0.cells.size:=by omega
  have hx0:=hz3 j hj z0.cells[j] (by simp[hj1])
  obtain⟨a1,a2⟩:=Je (S:=S) (w:=w) hx0
  exact⟨_,by simp[hj1],a1,a2⟩
 unfold Ov at h1
 split
 ·rename_i hc
  obtain⟨cs,rfl⟩:=a1 hc
  refine .agg _ cs (fun i=>cs.getD i undef) (by simpa[Value.cells,hz2] using hz1) (fun i hi=>?_) (fun i hi=>(hcell i hi).choose_spec.2.1) fun i hi=>?_
  ·have:i<cs.size:=by
    have:=hz1
    simp only[Value.cells] at this
    omega
   simp[this]
  obtain⟨u,q1,q2,q3⟩:=hcell i hi
  have q1:cs[i]?=some u:=q1
  simp only[Array.getD_eq_getD_getElem?,q1,Option.getD_some]
  exact q3
 rename_i hc
 have h1:Nat.beq (T.get e).size 1=true:=by
  split at h1
  ·rename_i hq;exact absurd hq hc
  exact h1
 have h1:=X30 h1
 have hcf:(T.get e).kind.cls=some false:=by
  have:=Ax hkn
  cases hq:(T.get e).kind.cls with
  | none=>exact absurd hq this
  | some b=>cases b with
   | true=>exact absurd hq hc
   | false=>rfl
 have hna:=a2 hcf
 have hz:z0.cells=#[z0]:=by cases z0<;>first | rfl | exact absurd rfl (hna _)
 have hl:(T.get e).zero.length=1:=by omega
 obtain⟨x,hx⟩:=List.length_eq_one_iff.1 hl
 obtain⟨u,q1,q2,q3⟩:=hcell 0 (by omega)
 rw[hz] at q1
 simp at q1
 subst q1
 simp only[hx,List.getElem_cons_zero] at q3
 rw[hx]
 exact q3
theorem VE {obl:List (Option OB)} (hT:TabOk P T) {t k e:Nat} {vk kv:Value} {ok:Bool} {K:AV->Prop} {es:List (D×D)} {bb:Nat} {arr:Array MapEntry} {clock:Nat} (hkind:(T.get t).kind=.map k e)
  (hk:RepA S w φ (fun r=>obl.getD r none) (.d (.val kv)) vk) (c0:IA (T.get k).kind kv=true) (c1:H5 (T.get k).kind=true) (c2:BD T k=true) (c3:BD T e=true) (c4:Nat.blt 0 (T.get e).size=true) (c5:Ov T e=true)
  (h2:w.heap[bb]?=some (.map arr clock)) (h4:EntsOK S w es arr.toList)
  (h :∃q,BL (T.get k).kind (.val kv) es=some q/\∃v,q.getD (Ly T e)=v/\∃b,q.isSome=b/\K (match (generalizing:=false) ok with
     | true=>.tup [.d v,.b b]
     | false=>.d v)) :∃out u,K out/\(Instr.lookup t (.map (some bb)) vk ok).run P w=.ok u w/\RepA S w φ (fun r=>obl.getD r none) out u/\Closed (fun r=>obl.getD r none) out:=by
 obtain⟨q,hq,v,hv,b,hb,hK⟩:=h
 obtain⟨d,hd,hik,hkey⟩:=Jc hT c1 c2
 have hkv:=hk.val
 subst hkv
 have hm:P.underlying t=some (.map k e):=by
  have:=(hT.of (t:=t) (by rw[hkind];simp[TK.cls])).kind
  rwa [hkind] at this
 have hpos:0<(T.get e).size:=X29 c4
 obtain⟨z,hz,hzr⟩:=NU (P:=P) (w:=w) (S:=S) hT c3 hpos c5
 have hck :∀em,(Instr.checkKey em 10000 k vk).run P w=.ok () w:=by
  intro em
  exact run_checkKey hd (hik _ c0) em 9999
 rcases Le (S:=S) (w:=w) (tk:=(T.get k).kind) (d:=d) (u:=vk) (fun u' b=>hkey vk u' b) es arr.toList 0 q h4 hq with ⟨g1,g2,_⟩|⟨j,y,v',g1,g2,g3,g4,g5,g6,_⟩
 ·subst g1
  simp only[Option.getD_none,Option.isSome_none] at hv hb
  subst hv hb
  refine⟨_,(if ok then .tuple #[z,.bool false] else z),hK,?_,?_,?_⟩
  ·unfold Instr.lookup
   simp[run_underlying hm,MapKept.run_getObj_map h2,hck,run_findKey hd g2,hz,Result.andThen]
  ·cases ok
   ·exact .d _ _ hzr
   exact .tup _ _ (fun i=>if i=0 then z else .bool false) rfl (fun i hi=>by
    match i,hi with
    | 0,_=>rfl
    | 1,_=>rfl) fun i hi=>by
    match i,hi with
    | 0,_=>exact .d _ _ hzr
    | 1,_=>exact .d _ _ (.val _ rfl)
  cases ok
  ·exact A6 _ _
  intro r' hr';simp[AV.refs,AV.refs.refsL] at hr'
 subst g1
 simp only[Option.getD_some,Option.isSome_some] at hv hb
 subst hv hb
 refine⟨_,(if ok then .tuple #[y.val,.bool true] else y.val),hK,?_,?_,?_⟩
 ·unfold Instr.lookup
  simp[run_underlying hm,MapKept.run_getObj_map h2,hck,run_findKey hd g6,Result.andThen]
 ·cases ok
  ·exact .d _ _ g5
  exact .tup _ _ (fun i=>if i=0 then y.val else .bool true) rfl (fun i hi=>by
   match i,hi with
   | 0,_=>rfl
   | 1,_=>rfl) fun i hi=>by
   match i,hi with
   | 0,_=>exact .d _ _ g5
   | 1,_=>exact .d _ _ (.val _ rfl)
 cases ok
 ·exact A6 _ _
 intro r' hr';simp[AV.refs,AV.refs.refsL] at hr'
theorem Un {obl:List (Option OB)} (hT:TabOk P T) (m:Mem E w S φ (fun r=>obl.getD r none)) {t:Nat} {x key:AV} {vx vk:Value} {ok:Bool} {K:AV->Prop}
  (hx:RepA S w φ (fun r=>obl.getD r none) x vx) (hk:RepA S w φ (fun r=>obl.getD r none) key vk) (h:SA T t x key ok obl K) :
  ∃out u,K out/\(Instr.lookup t vx vk ok).run P w=.ok u w/\RepA S w φ (fun r=>obl.getD r none) out u/\Closed (fun r=>obl.getD r none) out:=by
 unfold SA at h
 split at h
 ·rename_i k e r kv hkind
  simp only[AH,X27,Ar] at h
  obtain⟨⟨⟨⟨⟨⟨c0,c1⟩,c2⟩,c3⟩,c4⟩,c5⟩,o,ho,h⟩:=h
  have look :∀(es:List (D×D)),(∃b c arr clock,φ r=some (b,c)/\w.heap[b]?=some (.map arr clock)/\((∀o,¬ S b o)/\BornOK arr clock)/\EntsOK S w es arr.toList)->
    (∃q,BL (T.get k).kind (.val kv) es=some q/\∃v,q.getD (Ly T e)=v/\∃b,q.isSome=b/\K (match (generalizing:=false) ok with
     | true=>.tup [.d v,.b b]
     | false=>.d v))->∃out u,K out/\(Instr.lookup t vx vk ok).run P w=.ok u w/\RepA S w φ (fun r=>obl.getD r none) out u/\Closed (fun r=>obl.getD r none) out:=by
   intro es ⟨bb,c,arr,clock,h1,h2,h3,h4⟩ h
   cases hx with | mp _ b' c' hφ hb1 hb2=>
   rw[h1] at hφ
   simp only[X24,X26] at hφ
   obtain⟨rfl,rfl⟩:=hφ
   exact VE hT hkind hk c0 c1 c2 c3 c4 c5 h2 h4 h
  cases o with
  | box=>simp at h
  | row=>simp at h
  | gone=>simp at h
  | map k' e' es=>exact look es (O9 (m.obj r _ ho)) h
  | amap k' e' es kv' r' n'=>
   obtain⟨bb,c,arr,clock,h1,h2,h3,h4,h5⟩:=NZ (m.obj r _ ho)
   rcases h with h | ⟨rfl,rfl,⟨q,hq⟩,hsl,hK⟩
   ·exact look es ⟨bb,c,arr,clock,h1,h2,h3,h4⟩ h
   have hcl:Closed (fun r=>obl.getD r none) (.own r' n'):=fun q hq=>m.men r _ ho q (by simpa[AV.refs,OB.refs] using hq)
   obtain⟨d,hd,hik,hkey⟩:=Jc hT c1 c2
   cases hx with | mp _ b' c' hφ hb1 hb2=>
   rw[h1] at hφ
   simp only[X24,X26] at hφ
   obtain⟨rfl,rfl⟩:=hφ
   have hkv:=hk.val
   subst hkv
   have hm:P.underlying t=some (.map k e):=by
    have:=(hT.of (t:=t) (by rw[hkind];simp[TK.cls])).kind
    rwa [hkind] at this
   have hck :∀em,(Instr.checkKey em 10000 k vk).run P w=.ok () w:=by
    intro em
    exact run_checkKey hd (hik _ c0) em 9999
   rcases Le (S:=S) (w:=w) (tk:=(T.get k).kind) (d:=d) (u:=vk) (fun u' b=>hkey vk u' b) es arr.toList 0 q h4 hq with ⟨g1,g2,_⟩|⟨j,y,v',g1,g2,g3,g4,g5,g6,_⟩
   ·subst g1
    refine⟨_,.slice none 0 0,hK,?_,(Ni (fun u' b=>hkey vk u' b) es arr.toList 0 _ h4 hq h5).1 rfl,hcl⟩
    unfold Instr.lookup
    simp[run_underlying hm,MapKept.run_getObj_map h2,hck,run_findKey hd g2,XX (P:=P) (w:=w) hT c3 hsl,Result.andThen]
   refine⟨_,y.val,hK,?_,(Ni (fun u' b=>hkey vk u' b) es arr.toList 0 _ h4 hq h5).2 _ g6,hcl⟩
   unfold Instr.lookup
   simp[run_underlying hm,MapKept.run_getObj_map h2,hck,run_findKey hd g6,Result.andThen]
 exact h.elim
theorem EntsOK.mono {S':Sc} {w':World} (hk:Ls S w S' w') {es:List (D×D)} {l:List MapEntry} (h:EntsOK S w es l):EntsOK S' w' es l:=
 ⟨h.1,fun i hi=>by obtain⟨x,a,b,c⟩:=h.2 i hi;exact⟨x,a,b,c.mono hk⟩⟩
theorem Uf {obl:List (Option OB)} (hT:TabOk P T) (m:Mem E w S φ (fun r=>obl.getD r none)) {t:Nat} {a:AV} {v:Value} {K:AV->Prop} (ha:RepA S w φ (fun r=>obl.getD r none) a v)
  (hc:Closed (fun r=>obl.getD r none) a) (h:SI T E.wl.G t a obl K) :
  ∃out u,K out/\(Instr.loadAt t v).run P w=.ok u w/\RepA S w φ (fun r=>obl.getD r none) out u/\Closed (fun r=>obl.getD r none) out:=by
 unfold SI at h
 split at h
 ·rename_i g
  split at h
  ·rename_i k e es hkind hG
   cases ha
   obtain⟨g1,b,arr,clock,es',g2,g3,g4,g6,g5⟩:=E.wl.ext _ _ _ (fun b hb=>m.fr b (E.hg.lt b hb) (E.hg.pb b hb)) E.hg.gf g es hG
   have hkn:(T.get t).kind.cls=some false:=by rw[hkind];rfl
   have hS:S g 0:=m.sS g 0 (E.hg.st g 0 g1 (by
    intro hn
    rw[<- C3 (m.fr g (E.hg.lt g g1) (E.hg.pb g g1)) 0,g3] at hn
    simp at hn))
   refine⟨_,_,h,?_,.gv g _ hS g3,fun r hr=>by simp[AV.refs] at hr⟩
   obtain⟨d,hu,hd⟩:=(hT.of (t:=t) (by rw[hkn];simp)).kind.plain hkn
   simp only[Instr.loadAt,Instr.sureAddr,Sem.run_bind,Sem.run_pure,Result.andThen_ok,EB hu hd g3]
  exact h.elim
 exact OP hT m ha hc h
theorem Tn {obl:List (Option OB)} (hT:TabOk P T) (m:Mem E w S φ (fun r=>obl.getD r none)) {t:Nat} {x key:AV} {vx vk:Value} {ok:Bool} {K:AV->Prop}
  (hx:RepA S w φ (fun r=>obl.getD r none) x vx) (hk:RepA S w φ (fun r=>obl.getD r none) key vk) (h:SH T E.wl.G t x key ok obl K) :
  ∃out u,K out/\(Instr.lookup t vx vk ok).run P w=.ok u w/\RepA S w φ (fun r=>obl.getD r none) out u/\Closed (fun r=>obl.getD r none) out:=by
 unfold SH at h
 split at h
 ·rename_i g
  unfold ZO at h
  split at h
  ·rename_i k e es kv hkind hG
   rw[AH] at h
   simp only[X27] at h
   obtain⟨⟨⟨⟨⟨⟨c0,c1⟩,c2⟩,c3⟩,c4⟩,c5⟩,h⟩:=h
   obtain⟨g1,b,arr,clock,es',g2,g3,g4,g6,g5⟩:=E.wl.ext _ _ _ (fun b hb=>m.fr b (E.hg.lt b hb) (E.hg.pb b hb)) E.hg.gf g es hG
   cases hx with | gv _ _ hS hv=>
   rw[g3] at hv
   obtain rfl:=X25 hv
   obtain⟨q,hq,hr⟩:=h
   exact VE hT hkind hk c0 c1 c2 c3 c4 c5 g4 (g5.mono fun _ _ hf=>hf.elim) ⟨q,g6 _ _ _ hq,hr⟩
  exact h.elim
 exact Un hT m hx hk h
theorem EntsOK.push {es:List (D×D)} {l:List MapEntry} (h:EntsOK S w es l) {u:Value} {v:D} {x:MapEntry} (hu:u.oneCell'=true) (hk:x.key=u) (hv:RepD S w v x.val):EntsOK S w (es++[(.val u,v)]) (l++[x]):=by
 obtain⟨h1,h2⟩:=h
 refine⟨by simp[h1],fun i hi=>?_⟩
 by_cases hlt:i<es.length
 ·obtain⟨y,a,b,c⟩:=h2 i hlt
  exact⟨y,by rw[List.getElem?_append_left (by omega)];exact a,by rw[List.getElem_append_left hlt];exact b,by rw[List.getElem_append_left hlt];exact c⟩
 have e:i=es.length:=by simp at hi;omega
 subst e
 exact⟨x,by rw[List.getElem?_append_right (by omega)];simp[h1],by simp[hk,hu],by simpa using hv⟩
theorem EntsOK.set {es:List (D×D)} {l:List MapEntry} (h:EntsOK S w es l) {j:Nat} {u:Value} {v:D} {f:MapEntry->MapEntry} (hj:j<es.length) (hu:u.oneCell'=true) (hk :∀y,(f y).key=u) (hv :∀y,RepD S w v (f y).val) :
  EntsOK S w (es.set j (.val u,v)) (l.modify j f):=by
 obtain⟨h1,h2⟩:=h
 refine⟨by simp[h1],fun i hi=>?_⟩
 have hi':i<es.length:=by simpa using hi
 obtain⟨y,a,b,c⟩:=h2 i hi'
 by_cases e:j=i
 ·subst e
  refine⟨f y,by rw[List.getElem?_modify];simp[a],?_,?_⟩
  ·simp only[List.getElem_set_self];exact⟨u,rfl,hk y,hu⟩
  simp only[List.getElem_set_self];exact hv y
 refine⟨y,by rw[List.getElem?_modify];simp[a,e],?_,?_⟩
 ·rw[List.getElem_set_ne e];exact b
 rw[List.getElem_set_ne e];exact c
theorem H2 {obl:List (Option OB)} (hT:TabOk P T) {t k e0 r:Nat} {kv vk vv vx:Value} {dv:D} {wr:W} {S':Sc} (hkind:(T.get t).kind=.map k e0) (c0:IA (T.get k).kind kv=true) (c1:H5 (T.get k).kind=true) (c2:BD T k=true)
  (hx:RepA S w φ (fun r=>obl.getD r none) (.mp r) vx) (hk:RepA S w φ (fun r=>obl.getD r none) (.d (.val kv)) vk) (m':Mem E w S' φ (Ai (fun r=>obl.getD r none) wr)) (k':Kept w S φ (fun r=>obl.getD r none) w S' φ (Ai (fun r=>obl.getD r none) wr))
  (hd':RepD S' w dv vv) (hw':SV obl wr) {o onew:OB} (ho:obl.getD r none=some o) (hor:Ai (fun r=>obl.getD r none) wr r=some o) (hh:hdr (some o)=none) {k1 e1:Nat} {es zs:List (D×D)} (hzs:FH (T.get k).kind (.val kv) dv es=some zs)
  (hent :∃b c arr clock,φ r=some (b,c)/\w.heap[b]?=some (.map arr clock)/\((∀o,¬ S' b o)/\BornOK arr clock)/\EntsOK S' w es arr.toList)
  (hnew:onew=.map k1 e1 zs \/∃r' n,onew=.amap k1 e1 zs kv r' n/\Ai (fun r=>obl.getD r none) wr r'≠none/\RepA S' w φ (Ai (fun r=>obl.getD r none) wr) (.own r' n) vv) :
  ∃w',(∀r' o',(r',o') ∈ wr++[(r,onew)]->r'<obl.length)/\(Instr.mapUpdate t vx vk vv).run P w=.ok () w'/\Post E w S φ (fun r=>obl.getD r none) .dead (wr++[(r,onew)]) undef w':=by
 obtain⟨d,hd,hik,hkey⟩:=Jc hT c1 c2
 have hkv:=hk.val
 subst hkv
 have hm:P.underlying t=some (.map k e0):=by
  have:=(hT.of (t:=t) (by rw[hkind];simp[TK.cls])).kind
  rwa [hkind] at this
 obtain⟨b,c,arr,clock,h1,h2,⟨h3,hborn⟩,h4⟩:=hent
 have hvx:vx=.map (some b):=by
  cases hx with | mp _ b' c' hφ hb1 hb2=>
  rw[h1] at hφ
  simp only[X24,X26] at hφ
  rw[hφ.1]
 subst hvx
 have hu:vk.oneCell'=true:=by
  have:=hik _ c0
  cases vk<;>first | rfl | (cases d<;>simp[IsKey] at this)
 have hrl:r<obl.length:=Bh obl r _ ho
 obtain⟨q,hq⟩:=QG hzs
 have hlen :∀r' o',(r',o') ∈ wr++[(r,onew)]->r'<obl.length:=by
  intro r' o' hm'
  rcases X23.1 hm' with hm' | hm'
  ·obtain⟨e',sz',es',f',q1,_⟩:=hw' r' o' hm'
   exact Bh obl r' _ q1
  simp only[X14,X26] at hm'
  rw[hm'.1];exact hrl
 have hhn:hdr (some onew)=none/\∀cs,onew≠.box cs:=by
  rcases hnew with rfl | ⟨r',n,rfl,_⟩
  ·exact⟨rfl,fun cs h=>by simp at h⟩
  exact⟨rfl,fun cs h=>by simp at h⟩
 have fin :∀(arr':Array MapEntry) (clock':Nat),BornOK arr' clock'->(∀{S2:Sc} {w2:World},Ls S' w S2 w2->EntsOK S2 w2 zs arr'.toList)->(∀{Q:Value->Prop},Q vv->AliasP vk Q arr'.toList)->
   Post E w S φ (fun r=>obl.getD r none) .dead (wr++[(r,onew)]) undef { w with heap:=w.heap.setIfInBounds b (.map arr' clock') }:=by
  intro arr' clock' hbo he hal
  obtain⟨s1,s2⟩:=heap_set (w:=w) (o':=.map arr' clock') h2
  obtain⟨m2,k2⟩:=m'.set r o onew { w with heap:=w.heap.setIfInBounds b (.map arr' clock') } (φ r) hor (fun i hi hn=>s2 i fun e=>hn c (by rw[e];exact h1)) (by simp) ⟨rfl,rfl,rfl,Nat.le_refl _⟩
   (fun b' c' o hb hS=>by rw[h1] at hb;simp only[X24,X26] at hb;rw[<- hb.1] at hS;exact absurd hS (h3 o)) (.inl rfl)
   (.inl ⟨upd_same _ _ _,by rw[upd_same,hor,hh];exact hhn.1,fun ⟨cs,hc⟩=>by rw[upd_same] at hc;exact absurd (X25 hc) (hhn.2 cs)⟩) (fun r' hr'=>by
    rcases hnew with rfl | ⟨r2,n,rfl,hn,_⟩
    ·simp[OB.refs] at hr'
    ·simp only[OB.refs,X14] at hr'
     rw[hr'];exact hn) (fun hk2=>by
    obtain⟨g1,g2⟩:=he hk2.k
    rcases hnew with rfl | ⟨r2,n,rfl,hn,hal2⟩
    ·exact⟨b,c,arr',clock',by rw[upd_same];exact h1,s1,⟨by simpa using g1,hbo⟩,h3,fun i hi=>by simpa using g2 i hi⟩
    exact⟨b,c,arr',clock',by rw[upd_same];exact h1,s1,⟨by simpa using g1,hbo⟩,h3,fun i hi=>by simpa using g2 i hi,hal (hk2.rep (fun q hq=>by
     simp only[AV.refs,X14] at hq
     rw[hq];exact hn) hal2)⟩)
  exact⟨S',_,by rw[AS];exact m2,by rw[AS];exact k'.trans k2,.dead _,fun r' hr'=>by simp[AV.refs] at hr'⟩
 rcases Le (S:=S') (w:=w) (tk:=(T.get k).kind) (d:=d) (u:=vk) (fun u' b=>hkey vk u' b) es arr.toList 0 q h4 hq with ⟨g1,g2,g3⟩|⟨j,y,v',_,g2,g3,g4,_,g6,g7⟩
 ·rw[g3 dv] at hzs
  obtain rfl:=X25 hzs
  refine⟨_,hlen,?_,fin (arr.push { key:=vk,val:=vv,born:=clock }) (clock + 1) (hborn.push _ _) (fun hkp=>?_) fun hQ=>?_⟩
  ·unfold Instr.mapUpdate
   simp[run_underlying hm,MapKept.run_getObj_map h2,run_checkKey hd (hik _ c0),run_findKey hd g2,run_setObj_map _ h2,Result.andThen]
  ·rw[Array.toList_push]
   exact (h4.mono hkp).push hu rfl (hd'.mono hkp)
  rw[Array.toList_push]
  exact (NX (fun u' b=>hkey vk u' b) rfl hQ (f:=fun e=>{ e with key:=vk,val:=vv }) (fun _=>⟨rfl,hQ⟩) es arr.toList 0 _ h4 hq).1 g1
 rw[g7 dv] at hzs
 obtain rfl:=X25 hzs
 have hj:arr[j]?=some y:=by simpa using g2
 refine⟨_,hlen,?_,fin (arr.modify j fun e=>{ e with key:=vk,val:=vv }) clock (hborn.modify _ _ fun _=>rfl) (fun hkp=>?_) fun hQ=>?_⟩
 ·unfold Instr.mapUpdate
  simp[run_underlying hm,MapKept.run_getObj_map h2,run_checkKey hd (hik _ c0),run_findKey hd g6,hj,g3,run_keyThatStays (hik _ c0),run_setObj_map _ h2,Result.andThen]
 ·rw[Array.toList_modify]
  exact (h4.mono hkp).set g4 hu (fun _=>rfl) fun _=>hd'.mono hkp
 rw[Array.toList_modify]
 exact (NX (fun u' b=>hkey vk u' b) (y:={ key:=vk,val:=vv,born:=clock }) rfl hQ (f:=fun e=>{ e with key:=vk,val:=vv }) (fun _=>⟨rfl,hQ⟩) es arr.toList 0 _ h4 hq).2 j _ g6
theorem KY {obl:List (Option OB)} (hT:TabOk P T) (m:Mem E w S φ (fun r=>obl.getD r none)) {t:Nat} {x key v:AV} {vx vk vv:Value} {K:AV->W->Prop}
  (hx:RepA S w φ (fun r=>obl.getD r none) x vx) (hk:RepA S w φ (fun r=>obl.getD r none) key vk) (hv:RepA S w φ (fun r=>obl.getD r none) v vv) (h:I6 T t x key v obl K) :
  ∃out wr w',K out wr/\(∀r o,(r,o) ∈ wr->r<obl.length)/\(Instr.mapUpdate t vx vk vv).run P w=.ok () w'/\Post E w S φ (fun r=>obl.getD r none) out wr undef w':=by
 unfold I6 at h
 split at h
 ·rename_i k e0 r kv hkind
  simp only[AH,X27] at h
  obtain⟨⟨⟨c0,c1⟩,c2⟩,h⟩:=h
  obtain⟨dv,wr,S',hK,m',k',hd',hx',hw'⟩:=Dj m (FrzExt.refl _) hv h
  rw[Ar] at hK
  obtain⟨hne,o,ho,hK⟩:=hK
  have hor:Ai (fun r=>obl.getD r none) wr r=some o:=by
   rw[EL wr _ r fun q hq e=>by
    simp only[List.all_eq_true] at hne
    have:=hne q hq
    rw[e] at this
    simp[Nat.beq_refl] at this]
   exact ho
  cases o with
  | box=>simp at hK
  | row=>simp at hK
  | gone=>simp at hK
  | map k1 e1 es=>
   obtain⟨zs,hzs,hK⟩:=hK
   obtain⟨w',g1,g2,g3⟩:=H2 (P:=P) hT hkind c0 c1 c2 hx hk m' k' hd' hw' ho hor rfl hzs (O9 (m'.obj r _ hor)) (.inl rfl)
   exact⟨_,_,w',hK,g1,g2,g3⟩
  | amap k1 e1 es kv' r' n=>
   obtain⟨zs,hzs,hK⟩:=hK
   obtain⟨b,c,arr,clock,q1,q2,q3,q4,_⟩:=NZ (m'.obj r _ hor)
   obtain⟨w',g1,g2,g3⟩:=H2 (P:=P) hT hkind c0 c1 c2 hx hk m' k' hd' hw' ho hor rfl hzs ⟨b,c,arr,clock,q1,q2,q3,q4⟩ (.inl rfl)
   exact⟨_,_,w',hK,g1,g2,g3⟩
 exact h.elim
theorem Qy {obl:List (Option OB)} (hT:TabOk P T) (m:Mem E w S φ (fun r=>obl.getD r none)) {t r0 n0:Nat} {x key:AV} {vx vk vv:Value} {K:AV->W->Prop}
  (hx:RepA S w φ (fun r=>obl.getD r none) x vx) (hk:RepA S w φ (fun r=>obl.getD r none) key vk) (hv:RepA S w φ (fun r=>obl.getD r none) (.own r0 n0) vv) (hcl:Closed (fun r=>obl.getD r none) (.own r0 n0)) (h:KE T t x key r0 n0 obl K) :
  ∃out wr w',K out wr/\(∀r o,(r,o) ∈ wr->r<obl.length)/\(Instr.mapUpdate t vx vk vv).run P w=.ok () w'/\Post E w S φ (fun r=>obl.getD r none) out wr undef w':=by
 unfold KE at h
 split at h
 ·rename_i k e0 r kv hkind
  simp only[AH,X27] at h
  obtain⟨⟨⟨c0,c1⟩,c2⟩,h⟩:=h
  obtain⟨dv,wr,S',hK,m',k',hd',hx',hw'⟩:=Dj m (FrzExt.refl _) hv h
  rw[Ar] at hK
  obtain⟨hne,o,ho,hK⟩:=hK
  have hor:Ai (fun r=>obl.getD r none) wr r=some o:=by
   rw[EL wr _ r fun q hq e=>by
    simp only[List.all_eq_true] at hne
    have:=hne q hq
    rw[e] at this
    simp[Nat.beq_refl] at this]
   exact ho
  have hn:Ai (fun r=>obl.getD r none) wr r0≠none:=k'.closed hcl r0 (by simp[AV.refs])
  have hv':=k'.rep hcl hv
  cases o with
  | box=>simp at hK
  | row=>simp at hK
  | gone=>simp at hK
  | map k1 e1 es=>
   obtain⟨zs,hzs,hK⟩:=hK
   obtain⟨w',g1,g2,g3⟩:=H2 (P:=P) hT hkind c0 c1 c2 hx hk m' k' hd' hw' ho hor rfl hzs (O9 (m'.obj r _ hor)) (.inr ⟨r0,n0,rfl,hn,hv'⟩)
   exact⟨_,_,w',hK,g1,g2,g3⟩
  | amap k1 e1 es kv' r' n=>
   obtain⟨zs,hzs,hK⟩:=hK
   obtain⟨b,c,arr,clock,q1,q2,q3,q4,_⟩:=NZ (m'.obj r _ hor)
   obtain⟨w',g1,g2,g3⟩:=H2 (P:=P) hT hkind c0 c1 c2 hx hk m' k' hd' hw' ho hor rfl hzs ⟨b,c,arr,clock,q1,q2,q3,q4⟩ (.inr ⟨r0,n0,rfl,hn,hv'⟩)
   exact⟨_,_,w',hK,g1,g2,g3⟩
 exact h.elim
theorem Ks {obl:List (Option OB)} (hT:TabOk P T) (m:Mem E w S φ (fun r=>obl.getD r none)) {t:Nat} {x key v:AV} {vx vk vv:Value} {K:AV->W->Prop}
  (hx:RepA S w φ (fun r=>obl.getD r none) x vx) (hk:RepA S w φ (fun r=>obl.getD r none) key vk) (hv:RepA S w φ (fun r=>obl.getD r none) v vv) (hcl:Closed (fun r=>obl.getD r none) v) (h:J9 T t x key v obl K) :
  ∃out wr w',K out wr/\(∀r o,(r,o) ∈ wr->r<obl.length)/\(Instr.mapUpdate t vx vk vv).run P w=.ok () w'/\Post E w S φ (fun r=>obl.getD r none) out wr undef w':=by
 unfold J9 at h
 split at h
 ·rcases h with h | h
  ·exact KY hT m hx hk hv h
  exact Qy hT m hx hk hv hcl h
 exact KY hT m hx hk hv h
theorem Q4 {obl:List (Option OB)} (m:Mem E w S φ (fun r=>obl.getD r none)) {t self k e:Nat} (hs1:obl.getD self none=none) :
  ∃w',(Instr.makeMap t none).run P w=.ok (.map (some w.heap.size)) w'/\Post E w S φ (fun r=>obl.getD r none) (.mp self) [(self,.map k e [])] (.map (some w.heap.size)) w':=by
 refine⟨w.alloc (.map #[] 0),rfl,?_⟩
 obtain⟨m2,k2⟩:=m.allocO self (0,0) (.map k e []) (.map #[] 0) hs1 (fun r hr=>by simp[OB.refs] at hr) (fun hk2=>
  ⟨w.heap.size,(0,0),#[],0,upd_same _ _ _,(heap_alloc w _).1,⟨rfl,.empty _⟩,fun o ho=>absurd (m.bS _ _ ho) (Nat.lt_irrefl _),fun i hi=>by simp at hi⟩)
 refine⟨S,_,m2,k2,.mp self w.heap.size (0,0) (upd_same _ _ _) (fun e sz es frz hx=>by simp[Ai] at hx) (fun cs hx=>by simp[Ai] at hx),fun r hr=>?_⟩
 simp only[AV.refs,X14] at hr
 subst hr
 simp[Ai]
theorem Mem.rowSet (m:Mem E w S φ ob) {r e sz b:Nat} {c:Rp} {es es':List D} {e0:Nat} {cur cur':Array Value} {w':World} (h0:ob r=some (.row e sz es .no)) (hφ:φ r=some (b,c)) (hc:w.heap[b]?=some (.cells cur e0 (0,0)))
  (hl:es'.length=es.length) (h1 :∀i (hi:i<es'.length),es'[i].cells.length=sz) (h2 :∀i (hi:i<es'.length) j (hj:j<es'[i].cells.length),es'[i].cells[j].isAgg=false)
  (hc':w'.heap[b]?=some (.cells cur' e0 (0,0))) (hsz:cur'.size=cur.size) (hw :∀k,k<w.heap.size->k≠b->w'.heap[k]?=w.heap[k]?) (hs:w.heap.size<=w'.heap.size) (hos:w'.os=w.os/\w'.output=w.output/\w'.tape=w.tape/\w.drawn<=w'.drawn)
  (f:Nat->Nat->Value) (hf :∀i j,i<es'.length->j<sz->cur'[c.2 + (i * sz + j)]?=some (f i j)) (hr :∀i (hi:i<es'.length) j (hj:j<es'[i].cells.length),RepD S w es'[i].cells[j] (f i j)) :
  Mem E w' S φ (upd ob r (some (.row e sz es' .no)))/\Kept w S φ ob w' S φ (upd ob r (some (.row e sz es' .no))):=by
 obtain⟨g0,g1,g2,g3⟩:=m.obj r _ h0
 rcases g3 with ⟨f1,_⟩|⟨b',cap,vs,g,f1,f2,f3,f4,f5,f6,f7,f8⟩
 ·rw[hφ] at f1;simp at f1
 rw[hφ] at f1
 simp only[X24,X26] at f1
 obtain⟨rfl,rfl⟩:=f1
 rw[hc] at f2
 simp only[X24,Obj.cells.injEq] at f2
 obtain⟨rfl,rfl,_⟩:=f2
 have:=m.set r _ (.row e0 sz es' .no) w' (φ r) h0 (fun k hk hne=>hw k hk fun he=>hne c (by rw[he];exact hφ)) hs hos
  (fun b2 c2 o hb hS=>by rw[hφ] at hb;simp only[X24,X26] at hb;rw[<- hb.1] at hS;exact absurd hS (f8.1 o (by simp))) (.inl rfl)
  (.inl ⟨upd_same _ _ _,by simp[h0,hdr,hl],fun h=>by simp at h⟩) (fun r' hr'=>by simp[OB.refs] at hr') (fun hk=>
   ⟨g0,h1,h2,.inr ⟨b,c,cur',f,by rw[upd_same];exact hφ,hc',by omega,f4,by rw[hsz];exact f5,hf,fun i hi j hj=>(hr i hi j hj).mono hk.k,fun o _=>f8.1 o (by simp),fun _ _ _ _ h=>nomatch h⟩⟩)
 have hu:upd φ r (φ r)=φ:=by funext i;by_cases hi:i=r<;>simp[upd,hi]
 rwa [hu] at this
theorem GP (z:Array Value) (n i j:Nat) (hi:i<n) (hj:j<z.size):(Builtin.zeroCells z n)[i * z.size + j]?=z[j]?:=by
 have h1:(i + 1) * z.size<=n * z.size:=X31 _ hi
 rw[X32] at h1
 have h2:(i * z.size + j) % z.size=j:=by rw[Nat.mul_comm,Nat.mul_add_mod,Nat.mod_eq_of_lt hj]
 have h3:i * z.size + j<n * z.size:=by omega
 simp[Builtin.zeroCells,h3,h2,hj]
theorem Sj {obl:List (Option OB)} (hT:TabOk P T) (m:Mem E w S φ (fun r=>obl.getD r none)) {t ty r a n mm:Nat} {vx:Value} {K:AV->W->Prop} (hx:RepA S w φ (fun r=>obl.getD r none) (.osl r a n mm) vx)
  (h:NF T t r a n mm obl K) :∃out wr w',K out wr/\(∀r o,(r,o) ∈ wr->r<obl.length)/\(Builtin.clear_ #[t] ty #[vx]).run P w=.ok (.tuple #[]) w'/\Post E w S φ (fun r=>obl.getD r none) out wr (.tuple #[]) w':=by
 unfold NF at h
 split at h
 ·rename_i e hk
  rw[Ar] at h
  obtain⟨o,ho,h⟩:=h
  cases o with
  | box=>simp at h
  | map=>simp at h
  | amap=>simp at h
  | gone=>simp at h
  | row e' sz es frz=>
   simp only[AH,X27] at h
   obtain⟨⟨⟨⟨c1,c2⟩,c3⟩,c4⟩,hm,z,hz,zs,hzs,hK⟩:=h
   obtain rfl:=FZ.free_eq c3
   have hsz:sz=(T.get e).size:=X30 c2
   obtain⟨g0,g1,g2,g3⟩:=m.obj r _ ho
   have hpos:0<(T.get e).size:=hsz ▸ g0
   obtain⟨z0,hz0,hzr⟩:=NU (P:=P) (w:=w) (S:=S) hT c1 hpos c4
   rw[hz] at hzr
   cases hx with | osl _ _ _ _ _ k c a0 hv hkn h1=>
   obtain⟨q1,q2,_⟩:=(h1 e' sz es .no ho).2 hm
   have out :∀{w':World} {S':Sc} {φ':Nat->Option (Nat×Rp)} {ob':Nat->Option OB},RepA S' w' φ' ob' (.tup []) (.tuple #[]):=.tup [] #[] (fun _=>undef) rfl (fun i hi=>by simp at hi) fun i hi=>by simp at hi
   have hlt :∀r' o',(r',o') ∈ [(r,OB.row e' sz zs .no)]->r'<obl.length:=fun r' o' hm'=>by
    simp only[X14,X26] at hm'
    rw[hm'.1];exact Bh obl _ _ ho
   have hu:=A2 hT hk
   by_cases hn0:n=0
   ·
    have hze:zs=es:=by rw[<- hzs,hn0];simp
    subst hze
    refine⟨_,_,w,hK,hlt,?_,S,φ,?_,?_,out,fun r' hr'=>by simp[AV.refs,AV.refs.refsL] at hr'⟩
    ·rw[hv,hkn,hn0]
     cases a0<;>simp[Builtin.clear_,run_underlying hu]
    all_goals
     have:Ai (fun r=>obl.getD r none) [(r,OB.row e' sz zs .no)]=fun r=>obl.getD r none:=by
      funext q
      simp only[Ai]
      by_cases hq:q=r
      ·subst hq;rw[upd_same];exact ho.symm
      rw[AP _ _ _ _ hq]
     rw[this]
    ·exact m
    exact .refl _ _ _ _
   rcases q2 with q2 | ⟨b,cap,c',q2,q3,_⟩
   ·exact absurd q2 hn0
   rcases g3 with ⟨f1,_⟩|⟨b',cap',cur,f,f1,f2,f3,f4,f5,f6,f7,f8⟩
   ·rw[f1] at q2;simp at q2
   rw[f1] at q2
   simp only[X24,X26] at q2
   obtain⟨rfl,rfl⟩:=q2
   obtain⟨zc,zr⟩:=hzr.cells
   obtain⟨ie,zz,hie,hi1,hi2,hzz,hzz1,hzz2,_⟩:=(hT.of (Ax c1)).info
   have hz00:z0=zz:=by
    have:(zeroValue e).run P w=.ok zz w:=by simp[zeroValue,typeInfo,hie,hzz]
    rw[this] at hz0
    simp only[Result.ok.injEq] at hz0
    exact hz0.1.symm
   subst hz00
   have hzcs:z0.cells.size=sz:=by rw[hzz1,hsz]
   have hzl:z.cells.length=sz:=by omega
   have hrow:(a + n) * sz<=cap'.1 * sz:=X31 _ (by omega)
   rw[X32] at hrow
   have hvl:(Builtin.zeroCells z0.cells n).toList.length=n * sz:=by simp[size_zeroCells,hzcs]
   have hone :∀v ∈ (Builtin.zeroCells z0.cells n).toList,v.oneCell'=true:=by
    intro v hv'
    obtain⟨q,hq,rfl⟩:=List.getElem_of_mem hv'
    rw[hvl] at hq
    have hsp:0<sz:=g0
    have e1:q / sz<n:=Nat.div_lt_of_lt_mul (by rw[Nat.mul_comm];exact hq)
    have e2:q % sz<sz:=Nat.mod_lt _ hsp
    have e3:q / sz * sz + q % sz=q:=Nat.div_add_mod' q sz
    have:=GP z0.cells n (q / sz) (q % sz) e1 (by omega)
    rw[hzcs,e3] at this
    obtain⟨u,p1,p2,p3⟩:=zr (q % sz) (by omega)
    rw[p1] at this
    have hq':q<(Builtin.zeroCells z0.cells n).size:=by simpa using (by omega:q<(Builtin.zeroCells z0.cells n).toList.length)
    rw[Array.getElem?_eq_getElem hq'] at this
    simp only[Array.getElem_toList]
    rw[X25 this]
    exact p3.one p2
   have hst:=run_storeCells_at P b' (cap'.2 + a * sz) e' (Builtin.zeroCells z0.cells n).toList 0 cur w f2 (by rw[hvl];omega) hone
   have hfit:cap'.2 + a * sz + (Builtin.zeroCells z0.cells n).toList.length<=cur.toList.length:=by rw[hvl];simp;omega
   have hov:(cur.toList.take (cap'.2 + a * sz + 0)++(Builtin.zeroCells z0.cells n).toList++cur.toList.drop (cap'.2 + a * sz + 0 + (Builtin.zeroCells z0.cells n).toList.length))=BG cur.toList (cap'.2 + a * sz) (Builtin.zeroCells z0.cells n).toList:=rfl
   rw[hov] at hst
   obtain⟨s1,s2,s3⟩:=Gg w b' (BG cur.toList (cap'.2 + a * sz) (Builtin.zeroCells z0.cells n).toList).toArray
   have hh:=setRow_heap w b' cur (BG cur.toList (cap'.2 + a * sz) (Builtin.zeroCells z0.cells n).toList).toArray e' (0,0) f2
   have hzsl:zs.length=es.length:=by rw[<- hzs];simp;omega
   have hzsg :∀i (hi:i<zs.length),zs[i]=if h:a<=i/\i<a + n then z else es[i]'(by omega):=by
    intro i hi
    subst hzs
    by_cases h1:i<a
    ·rw[dif_neg (by omega),List.getElem_append_left (by simp;omega),List.getElem_append_left (by simp;omega)]
     simp
    by_cases h2:i<a + n
    ·rw[dif_pos ⟨by omega,h2⟩,List.getElem_append_left (by simp;omega),List.getElem_append_right (by simp;omega)]
     simp
    rw[dif_neg (by omega),List.getElem_append_right (by simp;omega)]
    simp only[List.getElem_drop]
    congr 1
    simp
    omega
   have hcur :∀i j,i<zs.length->j<sz->(BG cur.toList (cap'.2 + a * sz) (Builtin.zeroCells z0.cells n).toList).toArray[cap'.2 + (i * sz + j)]?=some (if a<=i/\i<a + n then z0.cells.getD j undef else f i j):=by
    intro i j hi hj
    have:=D5 cur.toList (cap'.2 + a * sz) (Builtin.zeroCells z0.cells n).toList hfit (cap'.2 + (i * sz + j))
    rw[hvl] at this
    simp only[List.getElem?_toArray,this]
    by_cases hin:a<=i/\i<a + n
    ·have k1:a * sz<=i * sz:=X31 _ hin.1
     have k2:(i + 1) * sz<=(a + n) * sz:=X31 _ hin.2
     rw[X32,X32] at k2
     rw[if_pos ⟨by omega,by omega⟩,if_pos hin]
     have e3:cap'.2 + (i * sz + j) - (cap'.2 + a * sz)=(i - a) * sz + j:=by rw[Nat.sub_mul];omega
     rw[e3]
     have:=GP z0.cells n (i - a) j (by omega) (by omega)
     rw[hzcs] at this
     have hj':j<z0.cells.size:=by omega
     simpa[hj'] using this
    rw[if_neg hin,if_neg]
    ·simpa using f6 i j (by omega) hj
    rintro⟨k1,k2⟩
    rcases Nat.lt_or_ge i a with h | h
    ·have:(i + 1) * sz<=a * sz:=X31 _ h
     rw[X32] at this
     omega
    have:(a + n) * sz<=i * sz:=X31 _ (by omega)
    rw[X32] at this
    omega
   obtain⟨m1,k1⟩:=m.rowSet (es':=zs) ho f1 f2 hzsl (fun i hi=>by
     rw[hzsg i hi];split
     ·exact hzl
     ·exact g1 _ _) (fun i hi j hj=>by
     have:=hzsg i hi
     simp only[this] at hj ⊢
     split
     ·rename_i hin
      rw[dif_pos hin] at hj
      obtain⟨u,_,p2,_⟩:=zr j hj
      exact p2
     ·rename_i hin
      rw[dif_neg hin] at hj
      exact g2 _ _ j hj) hh (by simp only[List.size_toArray];rw[BU _ _ _ hfit];simp) (fun k _ hk=>s1 k hk) (by omega) s3 _ hcur (fun i hi j hj=>by
     have:=hzsg i hi
     simp only[this] at hj ⊢
     split
     ·rename_i hin
      rw[dif_pos hin] at hj
      obtain⟨u,p1,_,p3⟩:=zr j hj
      have:z0.cells.getD j undef=u:=by
       have hj2:j<z0.cells.size:=by omega
       simp[hj2] at p1 ⊢
       exact p1
      rw[this];exact p3
     rename_i hin
     rw[dif_neg hin] at hj
     exact f7 _ _ j hj)
   refine⟨_,_,_,hK,hlt,?_,S,φ,m1,k1,out,fun r' hr'=>by simp[AV.refs,AV.refs.refsL] at hr'⟩
   rw[q3]
   have hnn:n≠0:=hn0
   obtain⟨n',rfl⟩ :∃n',n=n' + 1:=⟨n - 1,by omega⟩
   simp[Builtin.clear_,run_underlying hu,hz0,hst]
 exact h.elim
theorem ON {obl:List (Option OB)} (hT:TabOk P T) (m:Mem E w S φ (fun r=>obl.getD r none)) {t u ty e r a n mm sz':Nat} {ys:List D} {vx vy:Value} {K:AV->W->Prop} (hk:(T.get t).kind=.slice e)
  (hx :∀e' sz es frz,obl.getD r none=some (.row e' sz es frz)->mm=es.length->a + n<=mm/\((n=0/\∃a0 c,vx=.slice a0 0 c) \/∃b cap c',φ r=some (b,cap)/\vx=.slice (some ⟨b,cap.2 + a * sz,none⟩) n c'))
  (hy:SrcV S w sz' ys vy) (h:PN T e r a n mm sz' ys obl K) :
  ∃out wr v w',K out wr/\(∀r o,(r,o) ∈ wr->r<obl.length)/\(Builtin.copy_ #[t,u] ty #[vx,vy]).run P w=.ok v w'/\Post E w S φ (fun r=>obl.getD r none) out wr v w':=by
 unfold PN at h
 rw[Ar] at h
 obtain⟨o,ho,h⟩:=h
 cases o with
 | box=>simp at h
 | map=>simp at h
 | amap=>simp at h
 | gone=>simp at h
 | row e' sz es frz=>
  simp only[AH,X27] at h
  obtain⟨⟨⟨⟨c1,c2⟩,c4⟩,c3⟩,hm,zs,hzs,k,hkk,hK⟩:=h
  obtain rfl:=FZ.free_eq c3
  have hsz:sz=(T.get e).size:=X30 c2
  have hsz':sz'=sz:=X30 c4
  subst hsz'
  obtain⟨g0,g1,g2,g3⟩:=m.obj r _ ho
  obtain⟨q1,q2⟩:=hx e' _ es .no ho hm
  obtain⟨i,zz,hi,hi1,hi2,_⟩:=(hT.of (Ax c1)).info
  have hu:=A2 hT hk
  have hlt :∀r' o',(r',o') ∈ [(r,OB.row e' sz' zs .no)]->r'<obl.length:=fun r' o' hm'=>by
   simp only[X14,X26] at hm'
   rw[hm'.1];exact Bh obl _ _ ho
  have out :∀{w':World} {S':Sc} {φ':Nat->Option (Nat×Rp)} {ob':Nat->Option OB},RepA S' w' φ' ob' (.i (k:Int)) (.int .i64 (k:Int)):=.d _ _ (.val _ rfl)
  by_cases hk0:k=0
  ·
   have hze:zs=es:=by
    rw[<- hzs,hkk,hk0]
    have:ys.take n=[]:=by
     rcases Nat.min_eq_zero_iff.1 (hkk.trans hk0) with h | h
     ·rw[List.eq_nil_of_length_eq_zero h];simp
     rw[h];simp
    rw[this];simp
   subst hze
   have hrun:(Builtin.copy_ #[t,u] ty #[vx,vy]).run P w=.ok (.int .i64 ((0:Nat):Int)) w:=by
    have hz :∀(a2:Option Addr) (l c2:Nat) (a0:Option Addr) (l0 c0:Nat),Nat.min l l0=0->(Builtin.copy_ #[t,u] ty #[.slice a0 l0 c0,.slice a2 l c2]).run P w=.ok (.int .i64 ((0:Nat):Int)) w:=by
     intro a2 l c2 a0 l0 c0 hl
     cases a0<;>cases a2<;>simp[Builtin.copy_,run_underlying hu,sizeOf,typeInfo,hi,Builtin.lenOf,hl,Builtin.firstCells,storeCells,loadCells,loadCellsFrom,goInt]
    rw[hk0] at hkk
    rcases q2 with ⟨h1,a0,c0,rfl⟩|⟨b,cap,c',_,rfl⟩<;>rcases hy.v with ⟨⟨a2,c2',rfl⟩,hys⟩|⟨b2,o2,cap2,f2,rfl,_⟩
    ·exact hz _ _ _ _ _ _ (by simp)
    ·exact hz _ _ _ _ _ _ (by simp)
    ·exact hz _ _ _ _ _ _ (by simp)
    exact hz _ _ _ _ _ _ hkk
   refine⟨_,_,_,w,hK,hlt,hrun,S,φ,?_,?_,by rw[hk0];exact .d _ _ (.val _ rfl),fun r' hr'=>by simp[AV.refs] at hr'⟩
   all_goals
    have:Ai (fun r=>obl.getD r none) [(r,OB.row e' sz' zs .no)]=fun r=>obl.getD r none:=by
     funext q
     simp only[Ai]
     by_cases hq:q=r
     ·subst hq;rw[upd_same];exact ho.symm
     rw[AP _ _ _ _ hq]
    rw[this]
   ·exact m
   exact .refl _ _ _ _
  have hkn:k<=n:=by omega
  have hky:k<=ys.length:=by omega
  rcases q2 with ⟨h1,_⟩|⟨b,cap,c',q2,q3⟩
  ·omega
  rcases hy.v with ⟨_,hys⟩|⟨b2,o2,cap2,f2,hvy,hc,hr⟩
  ·rw[hys] at hky;simp at hky;omega
  rcases g3 with ⟨f1,_⟩|⟨b',cap',cur,f,f1,f2',f3,f4,f5,f6,f7,f8⟩
  ·rw[f1] at q2;simp at q2
  rw[f1] at q2
  simp only[X24,X26] at q2
  obtain⟨rfl,rfl⟩:=q2
  have hi1':i.size=sz':=by rw[hi1,hsz]
  have hrow:(a + n) * sz'<=cap'.1 * sz':=X31 _ (by omega)
  rw[X32] at hrow
  have hkr:k * sz'<=n * sz':=X31 _ hkn
  have hvl:(flat k sz' f2).length=k * sz':=flat_length _ _ _
  have hone :∀v ∈ flat k sz' f2,v.oneCell'=true:=by
   intro v hv'
   refine SrcV.one rfl hy.hsz hy.na hr v ?_
   obtain⟨q,hq,rfl⟩:=List.getElem_of_mem hv'
   rw[hvl] at hq
   have:k * sz'<=ys.length * sz':=X31 _ hky
   have e1:(flat k sz' f2)[q]'(by rw[hvl];exact hq)=(flat ys.length sz' f2)[q]'(by rw[flat_length];omega):=by simp[flat]
   rw[e1]
   exact List.getElem_mem _
  have hnews :∀j v,(flat k sz' f2)[j]?=some v->w.cell? ((⟨b2,o2,none⟩:Addr).add j)=some v:=
   KC (g:=fun q=>w.cell? ((⟨b2,o2,none⟩:Addr).add q)) fun i j hi hj=>by rw[Addr.add_none];have:=hc i j (by omega) hj;rw[Nat.add_assoc] at this;exact this
  have hld:=run_firstCells_some (P:=P) w sz' k ⟨b2,o2,none⟩ ys.length cap2 (flat k sz' f2) hvl hnews
  have hst:=run_storeCells_at P b' (cap'.2 + a * sz') e' (flat k sz' f2) 0 cur w f2' (by rw[hvl];omega) hone
  have hfit:cap'.2 + a * sz' + (flat k sz' f2).length<=cur.toList.length:=by rw[hvl];simp;omega
  have hov:(cur.toList.take (cap'.2 + a * sz' + 0)++flat k sz' f2++cur.toList.drop (cap'.2 + a * sz' + 0 + (flat k sz' f2).length))=BG cur.toList (cap'.2 + a * sz') (flat k sz' f2):=rfl
  rw[hov] at hst
  obtain⟨s1,s2,s3⟩:=Gg w b' (BG cur.toList (cap'.2 + a * sz') (flat k sz' f2)).toArray
  have hh:=setRow_heap w b' cur (BG cur.toList (cap'.2 + a * sz') (flat k sz' f2)).toArray e' (0,0) f2'
  have htk:(ys.take n).length=k:=by rw[X18];omega
  have hzsl:zs.length=es.length:=by rw[<- hzs,X11,X11,htk,X18,X17];omega
  have hzsg :∀i (hi:i<zs.length),zs[i]=if h:a<=i/\i<a + k then ys[i - a]'(by omega) else es[i]'(by omega):=by
   intro i hi
   subst hzs
   by_cases h1:i<a
   ·rw[dif_neg (by omega),List.getElem_append_left (by simp;omega),List.getElem_append_left (by simp;omega)]
    simp
   by_cases h2:i<a + k
   ·rw[dif_pos ⟨by omega,h2⟩,List.getElem_append_left (by simp;omega),List.getElem_append_right (by simp;omega)]
    simp only[List.getElem_take,X18]
    congr 1
    omega
   rw[dif_neg (by omega),List.getElem_append_right (by simp;omega)]
   simp only[List.getElem_drop]
   congr 1
   simp
   omega
  have hcur :∀i j,i<zs.length->j<sz'->(BG cur.toList (cap'.2 + a * sz') (flat k sz' f2)).toArray[cap'.2 + (i * sz' + j)]?=some (if a<=i/\i<a + k then f2 (i - a) j else f i j):=by
   intro i j hi hj
   have:=D5 cur.toList (cap'.2 + a * sz') (flat k sz' f2) hfit (cap'.2 + (i * sz' + j))
   rw[hvl] at this
   simp only[List.getElem?_toArray,this]
   by_cases hin:a<=i/\i<a + k
   ·have k1:a * sz'<=i * sz':=X31 _ hin.1
    have k2:(i + 1) * sz'<=(a + k) * sz':=X31 _ hin.2
    rw[X32,X32] at k2
    rw[if_pos ⟨by omega,by omega⟩,if_pos hin]
    have e3:cap'.2 + (i * sz' + j) - (cap'.2 + a * sz')=(i - a) * sz' + j:=by rw[Nat.sub_mul];omega
    rw[e3]
    exact flat_get f2 (by omega) hj
   rw[if_neg hin,if_neg]
   ·simpa using f6 i j (by omega) hj
   rintro⟨k1,k2⟩
   rcases Nat.lt_or_ge i a with h | h
   ·have:(i + 1) * sz'<=a * sz':=X31 _ h
    rw[X32] at this
    omega
   have:(a + k) * sz'<=i * sz':=X31 _ (by omega)
   rw[X32] at this
   omega
  obtain⟨m1,k1⟩:=m.rowSet (es':=zs) ho f1 f2' hzsl (fun i hi=>by
    rw[hzsg i hi];split
    ·exact hy.hsz _ _
    ·exact g1 _ _) (fun i hi j hj=>by
    have:=hzsg i hi
    simp only[this] at hj ⊢
    split
    ·rename_i hin
     rw[dif_pos hin] at hj
     exact hy.na _ _ j hj
    ·rename_i hin
     rw[dif_neg hin] at hj
     exact g2 _ _ j hj) hh (by simp only[List.size_toArray];rw[BU _ _ _ hfit];simp) (fun k _ hk=>s1 k hk) (by omega) s3 _ hcur (fun i hi j hj=>by
    have:=hzsg i hi
    simp only[this] at hj ⊢
    split
    ·rename_i hin
     rw[dif_pos hin] at hj
     exact hr _ _ j hj
    rename_i hin
    rw[dif_neg hin] at hj
    exact f7 _ _ j hj)
  refine⟨_,_,_,_,hK,hlt,?_,S,φ,m1,k1,out,fun r' hr'=>by simp[AV.refs] at hr'⟩
  rw[q3,hvy]
  have hmin:Nat.min ys.length n=k:=hkk
  simp[Builtin.copy_,run_underlying hu,sizeOf,typeInfo,hi,Builtin.lenOf,hmin,hi1',hld,hst,goInt]
theorem UI {obl:List (Option OB)} (hT:TabOk P T) (m:Mem E w S φ (fun r=>obl.getD r none)) {t u ty:Nat} {x y:AV} {vx vy:Value} {K:AV->W->Prop} (hx:RepA S w φ (fun r=>obl.getD r none) x vx)
  (hy:RepA S w φ (fun r=>obl.getD r none) y vy) (h:RH T t x y obl K) :
  ∃out wr v w',K out wr/\(∀r o,(r,o) ∈ wr->r<obl.length)/\(Builtin.copy_ #[t,u] ty #[vx,vy]).run P w=.ok v w'/\Post E w S φ (fun r=>obl.getD r none) out wr v w':=by
 unfold RH at h
 split at h
 ·rename_i e hk
  obtain⟨sz',ys,h,hsv⟩:=Iy m hy h
  split at h
  ·rename_i r n
   refine ON hT m hk (fun e' sz es frz ho hm=>?_) hsv h
   cases hx with | own _ _ _ k c a0 hv hkk h1 hbx=>
   refine⟨by omega,?_⟩
   rcases (h1 _ _ _ _ ho).2 hm with ⟨f1,f2,a9,f3⟩|⟨b,cap,f1,f3⟩
   ·exact .inl ⟨f2,a9,0,f3⟩
   exact .inr ⟨b,cap,cap.1,f1,by simpa using f3⟩
  ·rename_i r a n mm
   refine ON hT m hk (fun e' sz es frz ho hm=>?_) hsv h
   cases hx with | osl _ _ _ _ _ k c a0 hv hkk h1=>
   obtain⟨q1,q2,_⟩:=(h1 e' sz es frz ho).2 hm
   refine⟨q1,?_⟩
   rcases q2 with q2 | ⟨b,cap,c',q2,q3,_⟩
   ·exact .inl ⟨q2,a0,c,by rw[hv,hkk,q2]⟩
   exact .inr ⟨b,cap,c',q2,q3⟩
  exact h.elim
 exact h.elim
theorem Np {t u ty e:TypeId} {i:TypeInfo} {z:Value} (ht:P.underlying t=some (.slice e)) (hu:P.underlying u=some (.int .i64)) (hi:P.info? e=some i) (hz:i.zero=some z) (hzs:z.cells.size=i.size) (hsz:0<i.size)
  {n:Int} (h0:0<n) (h1:n<=1048576) (hb:i.bytes<=65536) :
  (Builtin.append_ #[t,u] ty #[.slice none 0 0,.int .i64 n]).run P w =
   .ok (.slice (some ⟨w.heap.size,0,none⟩) n.toNat (grownCap w n.toNat 0 e)) (w.drew.alloc (.cells (Builtin.zeroCells z.cells n.toNat++Builtin.zeroCells z.cells (grownCap w n.toNat 0 e - n.toNat)) e)):=by
 obtain⟨m,rfl⟩ :∃m:Nat,n=m:=⟨n.toNat,by omega⟩
 have hw:IntKind.i64.wrap (m:Int)=m:=by rw[IntKind.wrap_i64];omega
 have hm:m≠0:=by omega
 have hb2:m * i.bytes<=1048576 * 65536:=Nat.mul_le_mul (by omega) hb
 have c1:¬ ((m:Int)<0):=by omega
 have c2:¬ (281474976710656<(m:Int) * (i.bytes:Int)):=by
  have:((m * i.bytes:Nat):Int)<=68719476736:=by omega
  rw[Int.natCast_mul] at this
  omega
 have c3:m * i.size≠0:=Nat.mul_ne_zero hm (by omega)
 have c4:¬ (281474976710656<Builtin.nextslicecap m 0 * i.bytes):=by rw[nextslicecap_zero (by omega)];omega
 have c5:¬ (9223372036854775807<(m:Int)):=by omega
 simp[Builtin.append_,run_underlying ht,run_underlying hu,sizeOf,typeInfo,zeroValue,hi,hz,asInt,asIntOf,hw,c1,c2,hm,c3,c4,c5,Nat.pos_iff_ne_zero.1 hsz,Question.forced,run_firstCells_none,newRow,grownCap]
theorem W6 {z:Array Value} {n:Nat}:flat n z.size (fun _ j=>z.getD j undef)=(Builtin.zeroCells z n).toList:=by
 refine List.ext_getElem (by rw[flat_length,Array.length_toList,size_zeroCells]) fun k h1 h2=>?_
 rw[flat_length] at h1
 have hs:0<z.size:=by
  rcases Nat.eq_zero_or_pos z.size with h | h
  ·rw[h] at h1;simp at h1
  exact h
 have hm:=Nat.mod_lt k hs
 simp[flat,Builtin.zeroCells,hm]
theorem YW {t u ty e:TypeId} {i:TypeInfo} {z:Value} (ht:P.underlying t=some (.slice e)) (hu:P.underlying u=some (.int .i64)) (hi:P.info? e=some i) (hz:i.zero=some z) (hzs:z.cells.size=i.size) (hsz:0<i.size)
  {n:Nat} (hone :∀v ∈ (Builtin.zeroCells z.cells n).toList,v.oneCell'=true) (h1:n<=1048576) (hb:i.bytes<=65536):ApRun P w t u ty e z i i.size n (fun _ j=>z.cells.getD j undef) (.int .i64 (n:Int)):=by
 have hw:IntKind.i64.wrap (n:Int)=n:=by rw[IntKind.wrap_i64];omega
 have hb2:n * i.bytes<=1048576 * 65536:=Nat.mul_le_mul h1 hb
 have c1:¬ ((n:Int)<0):=by omega
 have c2:¬ (281474976710656<(n:Int) * (i.bytes:Int)):=by
  have:((n * i.bytes:Nat):Int)<=68719476736:=by omega
  rw[Int.natCast_mul] at this
  omega
 have hf:flat n i.size (fun _ j=>z.cells.getD j undef)=(Builtin.zeroCells z.cells n).toList:=by rw[<- hzs];exact W6
 have hs0:i.size≠0:=by omega
 refine⟨fun h0 a m c hmc=>?_,fun h0 a0 hby=>?_,fun h0 g o sLen sCap cur hg hroom hfit=>?_,fun h0 b sLen sCap olds hlo holds hg h63 hfit=>?_⟩
 ·have hw0:IntKind.i64.wrap 0=0:=by rw[IntKind.wrap_i64];omega
  subst h0
  cases a<;>simp[Builtin.append_,run_underlying ht,run_underlying hu,sizeOf,typeInfo,zeroValue,hi,hz,asInt,asIntOf,hw0,hmc,storeCells]
 ·have hn:n≠0:=by omega
  have c3:n * i.size≠0:=Nat.mul_ne_zero hn hs0
  have c4:¬ (281474976710656<Builtin.nextslicecap n 0 * i.bytes):=by rw[nextslicecap_zero (by omega)];omega
  have c5:¬ (9223372036854775807<(n:Int)):=by omega
  rw[hf]
  cases a0<;>simp[Builtin.append_,run_underlying ht,run_underlying hu,sizeOf,typeInfo,zeroValue,hi,hz,asInt,asIntOf,hw,c1,c2,hn,c3,c4,c5,hs0,Question.forced,run_firstCells_none,newRow,grownCap,Builtin.firstCells,loadCells,loadCellsFrom]
 ·have hn:n≠0:=by omega
  have c3:n * i.size≠0:=Nat.mul_ne_zero hn hs0
  have hst:=run_storeCells_at P g (o + sLen * i.size) e (Builtin.zeroCells z.cells n).toList 0 cur w hg (by rw[Array.length_toList,size_zeroCells,hzs];omega) hone
  simp only[Nat.add_zero] at hst
  rw[hf]
  simp[Builtin.append_,run_underlying ht,run_underlying hu,sizeOf,typeInfo,zeroValue,hi,hz,asInt,asIntOf,hw,c1,c2,hn,c3,hs0,hroom,Addr.add_lit,hst]
 have hn:n≠0:=by omega
 have c3:n * i.size≠0:=Nat.mul_ne_zero hn hs0
 have hn2:¬ (sLen + n<=sCap):=by omega
 have h63':¬ (9223372036854775807<((sLen:Int) + (n:Int))):=by omega
 have h48':¬ (281474976710656<Builtin.nextslicecap (sLen + n) sCap * i.bytes):=by omega
 have hfo:=run_firstCells_some (P:=P) w.drew i.size sLen b sLen sCap olds hlo (by simpa using holds)
 rw[hf]
 simp[Builtin.append_,run_underlying ht,run_underlying hu,sizeOf,typeInfo,zeroValue,hi,hz,asInt,asIntOf,hw,c1,c2,hn,c3,hs0,hn2,h63',h48',Question.forced,hfo,newRow,grownCap]
theorem VN {obl:List (Option OB)} (hT:TabOk P T) (m:Mem E w S φ (fun r=>obl.getD r none)) {t u ty self:Nat} {x n:AV} {vx vn:Value} {K:AV->W->Prop}
  (hx:RepA S w φ (fun r=>obl.getD r none) x vx) (hn:RepA S w φ (fun r=>obl.getD r none) n vn) (h:VK T t u self x n obl K) :
  ∃out wr v w',K out wr/\(∀r o,(r,o) ∈ wr->r<obl.length)/\(Builtin.append_ #[t,u] ty #[vx,vn]).run P w=.ok v w'/\Post E w S φ (fun r=>obl.getD r none) out wr v w':=by
 unfold VK at h
 split at h
 ·rename_i e szn n hk hku
  rw[B2,AH,X27,X27,X27] at h
  obtain⟨hself,⟨⟨⟨hkt,hkn⟩,hc1⟩,hs1c⟩,⟨b1,b2,b4⟩,z,hz,zs,hzs,hK⟩:=h
  have hpos:0<(T.get e).size:=X29 hc1
  obtain⟨hs1,hs2⟩:=CN hself
  have hte:=hT.of (Ax hkn)
  obtain⟨ie,z0,hie,hi1,hi2,hz0,hz1,hz2,hz3⟩:=hte.info
  obtain rfl:=hn.int
  cases hx with | d _ _ hx=>
  cases hx with | nil=>
  have hut:P.underlying u=some (.int .i64):=by
   have:=(hT.of (Ax hkt)).kind
   rw[hku] at this
   exact this
  have hrun:=Np (P:=P) (w:=w) (ty:=ty) (A2 hT hk) hut hie hz0 (by rw[hz1,hi1]) (by omega) b1 b2 (by omega)
  have hzc:z.cells=(T.get e).zero.map fun x=>match x with
    | .nil sz=>.lst sz []
    | x=>x:=by
   rw[<- hz]
   split
   ·rfl
   rename_i hcl
   have h1:(T.get e).size=1:=by
    split at hs1c
    ·rename_i hq;exact absurd hq hcl
    exact X30 hs1c
   have hl:(T.get e).zero.length=1:=by omega
   obtain⟨x,hx⟩:=List.length_eq_one_iff.1 hl
   have hna :∀y ∈ (T.get e).zero,y.isAgg=false:=by
    intro y hy
    obtain⟨j,hj,rfl⟩:=List.getElem_of_mem hy
    have hj1:j<z0.cells.size:=by omega
    exact (Je (S:=S) (w:=w) (hz3 j hj z0.cells[j] (by simp[hj1]))).1
   rw[hx] at hna ⊢
   have:=hna x (by simp)
   cases x<;>first | rfl | simp[D.isAgg] at this
  have hzl:z.cells.length=(T.get e).size:=by rw[hzc];simp[hz2]
  have hcell :∀j (hj:j<z.cells.length),∃u,z0.cells[j]?=some u/\z.cells[j].isAgg=false/\RepD S w z.cells[j] u:=by
   intro j hj
   have hj0:j<(T.get e).zero.length:=by rw[hzl] at hj;omega
   have hj1:j<z0.cells.size:=by omega
   have hx0:=hz3 j hj0 z0.cells[j] (by simp[hj1])
   refine⟨z0.cells[j],by simp[hj1],?_⟩
   have e1:z.cells[j]=(match (T.get e).zero[j] with
    | .nil sz=>.lst sz []
    | x=>x):=by simp[hzc]
   rw[e1]
   obtain⟨a1,a2⟩:=Je (S:=S) (w:=w) hx0
   cases hq:(T.get e).zero[j] with
   | nil sz=>
    rw[hq] at a2
    generalize z0.cells[j]=u at a2 ⊢
    cases a2
    exact⟨rfl,.lst0 _ _ _⟩
   | val v=>rw[hq] at a1 a2;exact⟨a1,a2⟩
   | agg cs=>rw[hq] at a1;simp[D.isAgg] at a1
   | lst sz es=>rw[hq] at a1 a2;exact⟨rfl,a2⟩
  subst hzs
  have hzn :∀i (hi:i<(List.replicate n.toNat z).length),(List.replicate n.toNat z)[i]=z:=by intro i hi;simp
  refine⟨_,_,_,_,hK,fun r o hm=>?_,hrun,?_⟩
  ·simp only[X14,X26] at hm
   rw[hm.1];exact hs2
  have hge:=grownCap_ge w n.toNat 0 e
  have hle:=grownCap_le_maxLen w n.toNat 0 e (by simp only[maxLen];omega)
  generalize grownCap w n.toNat 0 e=cap at hge hle ⊢
  obtain⟨md,kd⟩:=m.drew
  have hcs:z0.cells.size=(T.get e).size:=hz1
  have hsz:(Builtin.zeroCells z0.cells n.toNat++Builtin.zeroCells z0.cells (cap - n.toNat)).size=cap * (T.get e).size:=by
   rw[Array.size_append,size_zeroCells,size_zeroCells,hcs,<- X32]
   congr 1;omega
  have hat :∀i j,i<n.toNat->j<(T.get e).size->(Builtin.zeroCells z0.cells n.toNat++Builtin.zeroCells z0.cells (cap - n.toNat))[i * (T.get e).size + j]?=z0.cells[j]?:=by
   intro i j hi hj
   have hlt:(i + 1) * (T.get e).size<=n.toNat * (T.get e).size:=X31 _ (by omega)
   rw[X32] at hlt
   rw[Array.getElem?_append_left (by rw[size_zeroCells,hcs];omega)]
   have:=GP z0.cells n.toNat i j hi (by omega)
   rw[hcs] at this
   exact this
  obtain⟨m2,k2⟩:=md.alloc self (cap,0) (.row e (T.get e).size (List.replicate n.toNat z) .no) (Builtin.zeroCells z0.cells n.toNat++Builtin.zeroCells z0.cells (cap - n.toNat)) e hs1 (fun r hr=>by simp[OB.refs] at hr) (fun hk2=>by
   refine⟨hpos,fun i hi=>by rw[hzn i hi];exact hzl,fun i hi j hj=>?_,.inr ⟨w.drew.heap.size,(cap,0),Builtin.zeroCells z0.cells n.toNat++Builtin.zeroCells z0.cells (cap - n.toNat),fun i j=>z0.cells.getD j undef,upd_same _ _ _,heap_alloc_new w.drew _,by simpa using hge,?_,Nat.le_of_eq ((Nat.zero_add _).trans hsz.symm),fun i j hi hj=>?_,fun i hi j hj=>?_,fun o _ ho=>absurd (md.bS _ _ ho) (Nat.lt_irrefl _),fun _ _ _ _ h=>nomatch h⟩⟩
   ·have:=hzn i hi
    simp only[this] at hj ⊢
    exact (hcell j hj).choose_spec.2.1
   ·exact hle
   ·simp only[X20] at hi
    simp only[Nat.zero_add]
    rw[hat i j hi hj]
    have hj1:j<z0.cells.size:=by omega
    simp[hj1]
   have:=hzn i hi
   simp only[this] at hj ⊢
   obtain⟨u,q1,q2,q3⟩:=hcell j hj
   have:z0.cells.getD j undef=u:=by simp[q1]
   rw[this]
   exact (q3.mono kd.k).mono hk2.k)
  refine⟨S,_,m2,kd.trans k2,?_,?_⟩
  ·refine .own self _ _ n.toNat cap (some ⟨w.heap.size,0,none⟩) rfl (by simp) (fun e2 sz2 es2 f2 hx2=>?_) (fun cs hx2=>?_)
   ·simp only[Ai,upd_same,X24,OB.row.injEq] at hx2
    obtain⟨rfl,rfl,rfl,rfl⟩:=hx2
    exact⟨by simp,fun _=>.inr ⟨_,_,upd_same _ _ _,by simp⟩⟩
   simp[Ai] at hx2
  intro r hr
  simp only[AV.refs,X14] at hr
  subst hr
  simp[Ai]
 exact h.elim
theorem Vb (hT:TabOk P T) {t ty:Nat} {x:AV} {vx:Value} {K:AV->Prop} (hx:RepA S w φ ob x vx) (h:XL T t x K) :
  FW K ((Builtin.cap_ #[t] ty #[vx]).run P w) w:=by
 unfold XL at h
 split at h
 ·rename_i hk
  cases hx with | d _ _ hx=>
  cases hx with | nil=>
  exact⟨_,rfl,h,by simp[Builtin.cap_,run_underlying (A2 hT hk),goInt]⟩
 exact h.elim
end
end Go.AX
end
section
namespace Go.AX
section
variable {P:Program} {T:TT} {E:Env} {w:World} {S:Sc} {φ:Nat->Option (Nat×Rp)} {ob:Nat->Option OB}
theorem J1 {obl:List (Option OB)} (m:Mem E w S φ (fun r=>obl.getD r none)) {u:Value} (h:u.oneCell'=true):Post E w S φ (fun r=>obl.getD r none) (.d (.val u)) [] u w:=
 Post.pure m (.d _ _ (.val _ h)) (A6 _ _)
theorem Ja {a:AV} (h:isNil a=true):a=.d (.val (.slice none 0 0)):=by
 unfold isNil at h
 split at h
 ·rfl
 simp at h
theorem W7 {t:Nat} {i:TypeInfo} {z:Value} (hi:P.info? t=some i) (hz:i.zero=some z):(Instr.alloc t true (.tuple #[])).run P w=.ok (.pointer (some ⟨w.heap.size,0,none⟩)) (w.alloc (.cells z.cells t)):=by
 simp[Instr.alloc,zeroValue,typeInfo,hi,hz,newVar,newRow]
theorem Gj {obl:List (Option OB)} {out:AV} {e sz:Nat} {zs:List D} {frz:FZ} {r:Nat} {u:Value} {w':World} {φ':Nat->Option (Nat×Rp)}
  (m:Mem E w' S φ' (upd (fun r=>obl.getD r none) r (some (.row e sz zs frz)))) (k:Kept w S φ (fun r=>obl.getD r none) w' S φ' (upd (fun r=>obl.getD r none) r (some (.row e sz zs frz))))
  (hv:Hm φ' r zs.length u) (ho:out=.own r zs.length):Post E w S φ (fun r=>obl.getD r none) out [(r,.row e sz zs frz)] u w':=by
 subst ho
 refine⟨S,φ',m,k,?_,fun r' hr'=>?_⟩
 ·have hs :∃k c a0,u=.slice a0 k c/\k=zs.length:=by
   rcases hv with ⟨_,h2,_,rfl⟩|⟨b,cap,_,rfl⟩
   ·exact⟨0,0,_,rfl,h2.symm⟩
   exact⟨_,cap.1,_,rfl,rfl⟩
  obtain⟨k',c,a0,h1,h2⟩:=hs
  refine .own r _ u k' c a0 h1 h2 (fun e' sz' es' f' hx=>?_) fun cs hx=>?_
  ·simp only[Ai,upd_same,X24,OB.row.injEq] at hx
   obtain⟨rfl,rfl,rfl,rfl⟩:=hx
   exact⟨Nat.le_refl _,fun _=>hv⟩
  simp[Ai] at hx
 simp only[AV.refs,X14] at hr'
 subst hr'
 simp[Ai]
theorem BW {a b:Nat}:Nat.beq a b=true↔a=b:=⟨X30,fun h=>h ▸ Nat.beq_refl a⟩
theorem VS {obl:List (Option OB)} (hT:TabOk P T) (m:Mem E w S φ (fun r=>obl.getD r none)) {t u ty r k:Nat} {n:AV} {vx vn:Value} {K:AV->W->Prop}
  (hx:RepA S w φ (fun r=>obl.getD r none) (.own r k) vx) (hn:RepA S w φ (fun r=>obl.getD r none) n vn) (h:U2 T t u r k n obl K) :
  ∃out wr v w',K out wr/\(∀r o,(r,o) ∈ wr->r<obl.length)/\(Builtin.append_ #[t,u] ty #[vx,vn]).run P w=.ok v w'/\Post E w S φ (fun r=>obl.getD r none) out wr v w':=by
 unfold U2 at h
 split at h
 ·rename_i e n hk hku
  rw[Ar] at h
  obtain⟨o,ho,h⟩:=h
  cases o with
  | box=>simp at h
  | map=>simp at h
  | amap=>simp at h
  | gone=>simp at h
  | row e' sz es frz=>
   simp only[AH,X27] at h
   obtain⟨⟨⟨⟨⟨⟨q1,q2⟩,q3⟩,q4⟩,q5⟩,q6⟩,⟨hkn,b1,b2,b3,b4,b5⟩,z,hz,zs,hzs,hK⟩:=h
   have q1:=BW.1 q1
   have q2:=BW.1 q2
   obtain rfl:=FZ.free_eq q3
   subst q1 hzs
   obtain⟨g0,_⟩:=m.obj r _ ho
   have hpos:0<(T.get e').size:=by omega
   obtain⟨z0,hz0,hzr⟩:=NU (P:=P) (w:=w) (S:=S) hT q5 hpos q6
   rw[hz] at hzr
   obtain⟨zc,zr⟩:=hzr.cells
   have hte:=hT.of (Ax q5)
   obtain⟨ie,zz,hie,hi1,hi2,hzz,hzz1,hzz2,_⟩:=hte.info
   have hz00:z0=zz:=by
    have:(zeroValue e').run P w=.ok zz w:=by simp[zeroValue,typeInfo,hie,hzz]
    rw[this] at hz0
    simp only[Result.ok.injEq] at hz0
    exact hz0.1.symm
   subst hz00
   have hzcs:z0.cells.size=sz:=by omega
   have hzl:z.cells.length=sz:=by omega
   obtain⟨mn,rfl⟩ :∃mn:Nat,n=mn:=⟨n.toNat,by omega⟩
   simp only[Int.toNat_natCast] at b4 b5 hK
   have hone :∀v ∈ (Builtin.zeroCells z0.cells mn).toList,v.oneCell'=true:=by
    intro v hv'
    obtain⟨q,hq,rfl⟩:=List.getElem_of_mem hv'
    have hvl:(Builtin.zeroCells z0.cells mn).toList.length=mn * sz:=by simp[size_zeroCells,hzcs]
    rw[hvl] at hq
    have e1:q / sz<mn:=Nat.div_lt_of_lt_mul (by rw[Nat.mul_comm];exact hq)
    have e2:q % sz<sz:=Nat.mod_lt _ g0
    have e3:q / sz * sz + q % sz=q:=Nat.div_add_mod' q sz
    have:=GP z0.cells mn (q / sz) (q % sz) e1 (by omega)
    rw[hzcs,e3] at this
    obtain⟨u,p1,p2,p3⟩:=zr (q % sz) (by omega)
    rw[p1] at this
    have hq':q<(Builtin.zeroCells z0.cells mn).size:=by simpa using (by omega:q<(Builtin.zeroCells z0.cells mn).toList.length)
    rw[Array.getElem?_eq_getElem hq'] at this
    simp only[Array.getElem_toList]
    rw[X25 this]
    exact p3.one p2
   obtain rfl:=hn.int
   cases hx with | own _ _ _ k c a0 hv hkk h1 hbx=>
   have hown:=(h1 _ _ _ _ ho).2 hkn
   rw[hkn] at hown
   have hut:P.underlying u=some (.int .i64):=by
    have:=(hT.of (Ax q4)).kind
    rw[hku] at this
    exact this
   have hln:(List.replicate mn z).length=mn:=by simp
   have hzi :∀i (hi:i<(List.replicate mn z).length),(List.replicate mn z)[i]=z:=by intro i hi;simp
   obtain⟨u',w',φ',g1,g2,g3,g4⟩:=It (ty:=ty) (u:=u) (ys:=List.replicate mn z) (fz':=.no) (vy:=.int .i64 (mn:Int)) (f:=fun _ j=>z0.cells.getD j undef) m hte (A2 hT hk) rfl ho hown
    (fun i hi=>by rw[hzi i hi];exact hzl) (fun i hi j hj=>by
     have:=hzi i hi
     simp only[this] at hj ⊢
     exact (zr j hj).choose_spec.2.1) (fun i hi j hj=>by
     have:=hzi i hi
     simp only[this] at hj ⊢
     obtain⟨u,p1,p2,p3⟩:=zr j hj
     have:z0.cells.getD j undef=u:=by simp[p1]
     rw[this]
     exact p3) (fun {i z'} hi hz'=>by
     rw[hie] at hi
     cases hi
     rw[hzz] at hz'
     cases hz'
     have:=YW (w:=w) (ty:=ty) (n:=mn) (A2 hT hk) hut hie hzz (by omega) (by omega) hone (by omega) (by omega)
     rw[hln]
     have e:ie.size=sz:=by omega
     rw[e] at this
     exact this) (fun _ _ _ _ h=>nomatch h) q2.symm (by rw[hln];exact b4) (by rw[hln];exact b5)
   refine⟨_,_,u',w',hK,fun r' o' hm=>?_,g1,Gj g2 g3 g4 rfl⟩
   simp only[X14,X26] at hm
   rw[hm.1];exact Bh obl _ _ ho
 exact h.elim
theorem Tm {obl:List (Option OB)} (hT:TabOk P T) (m:Mem E w S φ (fun r=>obl.getD r none)) {t u ty self:Nat} {x n:AV} {vx vn:Value} {K:AV->W->Prop}
  (hx:RepA S w φ (fun r=>obl.getD r none) x vx) (hn:RepA S w φ (fun r=>obl.getD r none) n vn) (h:Ny T t u self x n obl K) :
  ∃out wr v w',K out wr/\(∀r o,(r,o) ∈ wr->r<obl.length)/\(Builtin.append_ #[t,u] ty #[vx,vn]).run P w=.ok v w'/\Post E w S φ (fun r=>obl.getD r none) out wr v w':=by
 unfold Ny at h
 split at h
 ·exact VS hT m hx hn h
 ·exact VN hT m hx hn h
 exact h.elim
theorem Vv {obl:List (Option OB)} (m:Mem E w S φ (fun r=>obl.getD r none)) {y:AV} {vy:Value} {k sz:Nat} {frz:FZ} {K:FZ->Prop} (hy:RepA S w φ (fun r=>obl.getD r none) y vy) (h:Xu obl y k sz frz K) :
  ∃f:FZ,f.frozen=frz.frozen/\K f/\∀i j q n,f=.lk i j q n->obl.getD q none≠none/\∃i0,i=k + i0/\∀b o l c u,vy=.slice (some ⟨b,o,none⟩) l c->i0<l->j<sz->cellAt w b (o + (i0 * sz + j))=some u->RepA S w φ (fun r=>obl.getD r none) (.own q n) u:=by
 unfold Xu at h
 split at h
 ·exact⟨.yes,rfl,h,fun _ _ _ _ h=>nomatch h⟩
 rename_i hn
 have hf:frz.frozen=false:=by
  cases frz with
  | yes=>exact absurd rfl hn
  | no=>rfl
  | lk=>rfl
 rw[hf]
 split at h
 ·rename_i q n
  split at h
  ·rename_i e sz' ys i j q' n' hq
   split at h
   ·rename_i hb
    have hb:=X30 hb
    subst hb
    obtain⟨hn,hK⟩:=h
    refine⟨_,rfl,hK,fun i2 j2 q2 n2 he=>?_⟩
    simp only[FZ.lk.injEq] at he
    obtain⟨rfl,rfl,rfl,rfl⟩:=he
    refine⟨m.men q _ hq _ (by simp[OB.refs]),i,rfl,fun b o l c u hvy hi hj hc=>?_⟩
    cases hy with | own _ _ _ k' c' a0 hv hkk h1 hbx=>
    obtain⟨_,_,_,g3⟩:=m.obj q _ hq
    rcases (h1 _ _ _ _ hq).2 hn with ⟨a1,a2,a3,a4⟩|⟨b1,cap,a1,a4⟩
    ·rw[hvy] at a4
     simp at a4
     omega
    rw[hvy] at a4
    simp only[Value.slice.injEq,X24,Addr.mk.injEq] at a4
    obtain⟨⟨rfl,rfl,_⟩,rfl,rfl⟩:=a4
    rcases g3 with ⟨f1,_⟩|⟨b',cap',vs,f,f1,f2,f3,f4,f5,f6,f7,f8⟩
    ·rw[a1] at f1;simp at f1
    rw[a1] at f1
    simp only[X24,X26] at f1
    obtain⟨rfl,rfl⟩:=f1
    have:=f6 i j (by omega) hj
    rw[<- BH f2,hc] at this
    rw[X25 this]
    exact f8.2 i j q' n' rfl (by omega) hj
   exact⟨.no,rfl,h,fun _ _ _ _ h=>nomatch h⟩
  exact⟨.no,rfl,h,fun _ _ _ _ h=>nomatch h⟩
 exact⟨.no,rfl,h,fun _ _ _ _ h=>nomatch h⟩
theorem Qr {obl:List (Option OB)} (hT:TabOk P T) (m:Mem E w S φ (fun r=>obl.getD r none)) {st ty self:Nat} {x y:AV} {vx vy:Value} {K:AV->W->Prop} (hx:RepA S w φ (fun r=>obl.getD r none) x vx)
  (hy:RepA S w φ (fun r=>obl.getD r none) y vy) (h:KG T st self x y obl K) :
  ∃out wr u w',K out wr/\(∀r o,(r,o) ∈ wr->r<obl.length)/\(Builtin.append_ #[st,st] ty #[vx,vy]).run P w=.ok u w'/\Post E w S φ (fun r=>obl.getD r none) out wr u w':=by
 unfold KG at h
 split at h
 ·rename_i e hk
  obtain⟨sz',ys,h,hsv⟩:=Iy m hy h
  split at h
  ·rename_i szn
   rw[B2,AH,AH,X27] at h
   obtain⟨hself,⟨hc1,hc2⟩,hkn,hb,hK⟩:=h
   have hsz:=BW.1 hc1
   have hpos:0<(T.get e).size:=X29 hc2
   subst hsz
   obtain⟨hs1,hs2⟩:=CN hself
   obtain⟨m1,k1⟩:=m.empty self e (T.get e).size hs1 hpos
   cases hx with | d _ _ hx=>
   cases hx with | nil=>
   have hsv1:SrcV S w (T.get e).size ys vy:=hsv
   obtain⟨u,w',φ',h1,h2,h3,h4⟩:=J5 (ty:=ty) m1 (hT.of (Ax hkn)) (A2 hT hk) (r:=self) (es:=[]) (frz:=.no) (fz':=.no) rfl (upd_same _ _ _) (.inl ⟨upd_same _ _ _,rfl,_,rfl⟩) hsv1 (fun _ _ _ _ h=>nomatch h) rfl (by simpa using hb.1) (by simpa using hb.2)
   rw[List.nil_append,WU] at h2 h3
   rw[List.nil_append] at h4
   refine⟨_,_,u,w',hK,fun r o hm=>?_,h1,Gj h2 (k1.trans h3) h4 rfl⟩
   simp only[X14,X26] at hm
   rw[hm.1];exact hs2
  ·rename_i r n
   rw[Ar] at h
   obtain⟨o,ho,h⟩:=h
   cases o with
   | box=>simp at h
   | map=>simp at h
   | amap=>simp at h
   | gone=>simp at h
   | row e' sz es frz=>
    simp only[AH,X27] at h
    obtain⟨⟨⟨⟨q1,q2⟩,q3⟩,q4⟩,hkn,hn,hb,zs,hzs,hK⟩:=h
    obtain⟨fz',hfz,hK,hlk⟩:=Vv m hy hK
    have q1:=BW.1 q1
    have q2:=BW.1 q2
    have q3:=BW.1 q3
    subst q1 q2 hzs
    cases hx with | own _ _ _ k c a0 hv hkk h1 hbx=>
    have hown:=(h1 _ _ _ _ ho).2 hn
    rw[hn] at hown
    obtain⟨u,w',φ',g1,g2,g3,g4⟩:=J5 (ty:=ty) m (hT.of (Ax hkn)) (A2 hT hk) hfz ho hown hsv (fun i j q n h=>hlk i j q n h) q3.symm hb.1 hb.2
    refine⟨_,_,u,w',hK,fun r o hm=>?_,g1,Gj g2 g3 g4 rfl⟩
    simp only[X14,X26] at hm
    rw[hm.1];exact Bh obl _ _ ho
  ·rename_i r a n mm _
   rw[Ar] at h
   obtain⟨o,ho,h⟩:=h
   cases o with
   | box=>simp at h
   | map=>simp at h
   | amap=>simp at h
   | gone=>simp at h
   | row e' sz es frz=>
    simp only[AH,X27,B2] at h
    obtain⟨⟨⟨⟨⟨q1,q2⟩,q3⟩,q4⟩,q5⟩,hkn,hself,ha0,hn,hnl,hb,zs,hzs,hK⟩:=h
    have q1:=BW.1 q1
    have q2:=BW.1 q2
    have q3:=BW.1 q3
    obtain rfl:=FZ.free_eq q5
    subst q1 q2 hzs ha0
    obtain⟨hs1,hs2⟩:=CN hself
    cases hx with | osl _ _ _ _ _ k c a0 hv hkk h1=>
    obtain⟨_,_,hown⟩:=(h1 _ _ _ _ ho).2 hn
    have hown:=hown rfl
    have htl:(es.take n).length=n:=by simp;omega
    have hp :∃p:Option (Nat×Rp),((p=none/\es.take n=[]) \/∃b c c',φ r=some (b,c)/\p=some (b,(c',c.2 + 0 * sz'))/\(es.take n).length<=c'/\0 + c'<=c.1)/\Hm (upd (upd φ r none) self p) self n vx:=by
     rcases hown with ⟨f1,f2,a9,f3⟩|⟨b,cap,f1,f3⟩
     ·exact⟨none,.inl ⟨rfl,List.eq_nil_of_length_eq_zero (by omega)⟩,.inl ⟨upd_same _ _ _,f2,a9,f3⟩⟩
     refine⟨some (b,(cap.1,cap.2 + 0 * sz')),.inr ⟨b,cap,cap.1,f1,rfl,?_,by omega⟩,.inr ⟨b,(cap.1,cap.2 + 0 * sz'),upd_same _ _ _,by simpa using f3⟩⟩
     obtain⟨_,_,_,g3⟩:=m.obj r _ ho
     rcases g3 with ⟨g3,_⟩|⟨b',cap',vs,g,g1,g2,g3,_⟩
     ·rw[f1] at g3;simp at g3
     rw[f1] at g1
     simp only[X24,X26] at g1
     obtain⟨rfl,rfl⟩:=g1
     omega
    obtain⟨p,hp1,hp2⟩:=hp
    obtain⟨m1,k1⟩:=m.moveAt r self e' sz' 0 es (es.take n) p ho hs1 (by omega) (fun i hi=>by simp) hp1
    obtain⟨u,w',φ',g1,g2,g3,g4⟩:=J5 (ty:=ty) m1 (hT.of (Ax hkn)) (A2 hT hk) (r:=self) (es:=es.take n) (ys:=ys) (frz:=.no) (fz':=.no) rfl (upd_same _ _ _) (by rw[htl];exact hp2) hsv (fun _ _ _ _ h=>nomatch h) q3.symm (by rw[htl];exact hb.1) (by rw[htl];exact hb.2)
    rw[WU] at g2 g3
    refine⟨_,_,u,w',hK,fun r' o hm=>?_,g1,S,φ',g2,k1.trans g3,?_,fun r' hr'=>?_⟩
    ·simp only[List.mem_cons,X14,X26,List.not_mem_nil,or_false] at hm
     rcases hm with hm | hm
     ·rw[hm.1];exact Bh obl _ _ ho
     rw[hm.1];exact hs2
    ·have hs :∃k c a0,u=.slice a0 k c/\k=(es.take n++ys).length:=by
      rcases g4 with ⟨_,h2,_,rfl⟩|⟨b,cap,_,rfl⟩
      ·exact⟨0,0,_,rfl,h2.symm⟩
      exact⟨_,cap.1,_,rfl,rfl⟩
     obtain⟨k',c,a0,e1,e2⟩:=hs
     refine .own self _ u k' c a0 e1 e2 (fun e2' sz2 es2 f2 hx=>?_) fun cs hx=>?_
     ·simp only[Ai,upd_same,X24,OB.row.injEq] at hx
      obtain⟨rfl,rfl,rfl,rfl⟩:=hx
      exact⟨Nat.le_refl _,fun _=>g4⟩
     simp[Ai] at hx
    simp only[AV.refs,X14] at hr'
    subst hr'
    simp[Ai]
  exact h.elim
 exact h.elim
theorem RunOK.value {o:Oper} {ρ:Operand->Value} {Q:Value->World->Prop} {u:Value} {w':World} (h:(execOp ρ o).run P w=.ok (.value u) w') (hq:Q u w'):RunOK P o ρ w Q:=by
 unfold RunOK;rw[h];exact hq
theorem RunOK.skip {o:Oper} {ρ:Operand->Value} {Q:Value->World->Prop} {w':World} (h:(execOp ρ o).run P w=.ok .skip w') (hq:Q undef w'):RunOK P o ρ w Q:=by
 unfold RunOK;rw[h];exact hq
theorem UD {t e:Nat} {ie:TypeInfo} (hk:P.underlying t=some (.slice e)) (hi:P.info? e=some ie) {a:Option Addr} {len cap:Nat} {lo hi' mx:Option Value} {l h q:Nat}
  (hl:lo=none/\l=0 \/∃k,lo=some (.int k (l:Int))) (hh:hi'=none/\h=len \/∃k,hi'=some (.int k (h:Int))) (hm:mx=none/\q=cap\/(∃k,mx=some (.int k (q:Int)))/\hi'≠none)
  (h1:l<=h) (h2:h<=q) (h3:q<=cap) :
  (Instr.sliceAt t (.slice a len cap) lo hi' mx).run P w=.ok (.slice (if q=l then a else a.map (·.add (l * ie.size))) (h - l) (q - l)) w:=by
 unfold Instr.sliceAt
 have hb:(Instr.sliceBounds true len cap lo hi' mx).run P w=.ok (l,h,q) w:=by
  unfold Instr.sliceBounds
  have B :∀(k:IntKind) (c:BoundsCode) (i y:Nat),i<=y->(Instr.sliceBound (.int k (i:Int)) y c).run P w=.ok i w:=fun k c i y hiy=>E0 (P:=P) (w:=w) (k:=k) (c:=c) (i:=(i:Int)) (y:=y) ⟨by omega,by omega⟩
  rcases hm with ⟨rfl,rfl⟩|⟨⟨km,rfl⟩,hne⟩<;>rcases hl with ⟨rfl,rfl⟩|⟨k,rfl⟩<;>rcases hh with ⟨rfl,rfl⟩|⟨k',rfl⟩
  ·simp
  ·simp[Sem.run_bind,B k' _ h q h2]
  ·simp[Sem.run_bind,B k _ l h h1]
  ·simp[Sem.run_bind,B k' _ h q h2,B k _ l h h1]
  ·exact absurd rfl hne
  ·simp[Sem.run_bind,B km _ q cap h3,B k' _ h q h2]
  ·exact absurd rfl hne
  simp[Sem.run_bind,B km _ q cap h3,B k' _ h q h2,B k _ l h h1]
 simp[Sem.run_bind,run_underlying hk,Instr.slice,hb,sizeOf,typeInfo,hi]
def BR (S:Sc) (w:World) (φ:Nat->Option (Nat×Rp)) (ob:Nat->Option OB) (a:Option AV) (v:Option Value):Prop:=(a=none/\v=none) \/∃x y,a=some x/\v=some y/\RepA S w φ ob x y
theorem BR.bound {a:Option AV} {v:Option Value} {dflt:Int} {K:Int->Prop} (h:BR S w φ ob a v) (hb:Dc a dflt K) :∃i,(v=none/\i=dflt \/∃k,v=some (.int k i))/\K i:=by
 unfold Dc at hb
 split at hb
 ·rcases h with ⟨_,h⟩|⟨x,y,h,_⟩
  ·exact⟨dflt,.inl ⟨h,rfl⟩,hb⟩
  simp at h
 ·rcases h with ⟨h,_⟩|⟨x,y,h1,h2,h3⟩
  ·simp at h
  simp only[X24] at h1
  subst h1
  exact⟨_,.inr ⟨_,by rw[h2,h3.int]⟩,hb⟩
 exact hb.elim
theorem MF {obl:List (Option OB)} (hT:TabOk P T) (m:Mem E w S φ (fun r=>obl.getD r none)) {t e self r n:Nat} (hk:(T.get t).kind=.slice e) {lo hi mx:Option AV} {lo' hi' mx':Option Value} {vx:Value} {K:AV->W->Prop}
  (hlo:BR S w φ (fun r=>obl.getD r none) lo lo') (hhi:BR S w φ (fun r=>obl.getD r none) hi hi') (hmx:BR S w φ (fun r=>obl.getD r none) mx mx') (hmh:mx'≠none->hi'≠none)
  (hxa:RepA S w φ (fun r=>obl.getD r none) (.own r n) vx) (h:LS T e self r n lo hi mx obl K) :
  ∃out wr u,K out wr/\(∀r o,(r,o) ∈ wr->r<obl.length)/\(Instr.sliceAt t vx lo' hi' mx').run P w=.ok u w/\Post E w S φ (fun r=>obl.getD r none) out wr u w:=by
 unfold LS at h
 rw[B2,AH,Ar] at h
 obtain⟨hself,hkn,ob,ho,h⟩:=h
 cases ob with
 | box=>simp at h
 | map=>simp at h
 | amap=>simp at h
 | gone=>simp at h
 | row e' sz es frz=>
  simp only[AH,X27] at h
  obtain⟨⟨hsz,hfz⟩,h⟩:=h
  obtain rfl:=FZ.free_eq hfz
  have hsz':=BW.1 hsz
  obtain⟨l,hl,h⟩:=hlo.bound h
  obtain⟨u,hh,h⟩:=hhi.bound h
  obtain⟨q,hq,⟨c1,c2,c3,c4⟩,hn,zs,hzs,hK⟩:=hmx.bound h
  obtain⟨hs1,hs2⟩:=CN hself
  obtain⟨ie,z,hie,hi1,_⟩:=(hT.of (Ax hkn)).info
  obtain⟨g0,g1,g2,g3⟩:=m.obj r _ ho
  cases hxa with | own _ _ _ kk c a0 hv0 hkn0 h1 hbx=>
  have hown:=(h1 e' sz es .no ho).2 hn
  subst hv0
  have hlc:kk<=c/\kk=es.length:=by
   refine⟨?_,by omega⟩
   rcases hown with ⟨_,p2,a9,p3⟩|⟨b,cap,p1,p2⟩
   ·simp only[Value.slice.injEq] at p3;omega
   simp only[Value.slice.injEq] at p2
   obtain⟨_,p3,p4⟩:=p2
   rcases g3 with ⟨f1,_⟩|⟨b',cap',vs,f,f1,f2,f3,_⟩
   ·rw[f1] at p1;simp at p1
   rw[f1] at p1
   simp only[X24,X26] at p1
   obtain⟨rfl,rfl⟩:=p1
   omega
  obtain⟨qn,hqn,hqv,hq1,hq2⟩ :∃qn:Nat,(mx'=none/\qn=c\/(∃k,mx'=some (.int k (qn:Int)))/\hi'≠none)/\True/\u.toNat<=qn/\qn<=c:=by
   rcases hq with ⟨q1,q2⟩|⟨k,q1⟩
   ·exact⟨c,.inl ⟨q1,rfl⟩,trivial,by omega,Nat.le_refl _⟩
   exact⟨q.toNat,.inr ⟨⟨k,by rw[q1];congr 2;omega⟩,hmh (by rw[q1];simp)⟩,trivial,by omega,by omega⟩
  have hrun:=UD (P:=P) (w:=w) (A2 hT hk) hie (a:=a0) (len:=kk) (cap:=c) (lo:=lo') (hi':=hi') (mx:=mx') (l:=l.toNat) (h:=u.toNat) (q:=qn)
   (hl.imp (fun q=>⟨q.1,by omega⟩) fun ⟨k,q⟩=>⟨k,by rw[q];congr 2;omega⟩)
   (hh.imp (fun q=>⟨q.1,by omega⟩) fun ⟨k,q⟩=>⟨k,by rw[q];congr 2;omega⟩) hqn (by omega) hq1 hq2
  have hzl:zs.length=u.toNat - l.toNat:=by rw[<- hzs];simp;omega
  obtain⟨p,hp,hpv⟩ :∃p:Option (Nat×Rp),((p=none/\zs=[]) \/∃b c0 c',φ r=some (b,c0)/\p=some (b,(c',c0.2 + l.toNat * sz))/\zs.length<=c'/\l.toNat + c'<=c0.1)/\
    ∀(φ':Nat->Option (Nat×Rp)),φ' self=p->Hm φ' self zs.length (.slice (if qn=l.toNat then a0 else a0.map (·.add (l.toNat * ie.size))) (u.toNat - l.toNat) (qn - l.toNat)):=by
   by_cases hz0:qn=l.toNat
   ·have:zs=[]:=List.eq_nil_of_length_eq_zero (by omega)
    exact⟨none,.inl ⟨rfl,this⟩,fun φ' h'=>.inl ⟨h',by rw[this];rfl,a0,by rw[if_pos hz0];congr 1<;>omega⟩⟩
   rcases hown with ⟨p1,p2,a9,p3⟩|⟨b,cap,p1,p2⟩
   ·simp only[Value.slice.injEq] at p3
    omega
   simp only[Value.slice.injEq] at p2
   obtain⟨rfl,p3,rfl⟩:=p2
   refine⟨some (b,(qn - l.toNat,cap.2 + l.toNat * sz)),.inr ⟨b,cap,_,p1,rfl,by omega,by omega⟩,fun φ' h'=>.inr ⟨b,_,h',?_⟩⟩
   rw[if_neg hz0]
   simp only[Option.map_some,Addr.add_none,hi1,<- hsz']
   congr 1
   omega
  obtain⟨m1,k1⟩:=m.moveAt r self e' sz l.toNat es zs p ho hs1 (by omega) (fun i hi=>by
   subst hzs
   simp) hp
  have hrs:r≠self:=fun he=>by rw[he] at ho;rw[hs1] at ho;simp at ho
  have hupd:Ai (fun r=>obl.getD r none) [(r,.gone),(self,.row e' sz zs .no)]=upd (upd (fun r=>obl.getD r none) r (some .gone)) self (some (.row e' sz zs .no)):=rfl
  refine⟨_,_,_,hK,fun r' o' hm=>?_,hrun,⟨S,_,by rw[hupd];exact m1,by rw[hupd];exact k1,?_,?_⟩⟩
  ·simp only[List.mem_cons,X26,List.not_mem_nil,or_false] at hm
   rcases hm with ⟨rfl,_⟩|⟨rfl,_⟩
   ·exact Bh obl _ _ ho
   exact hs2
  ·rw[hupd]
   refine .own self _ _ _ _ _ rfl hzl.symm (fun e2 sz2 es2 f2 hx2=>?_) fun cs hx2=>by simp at hx2
   simp only[upd_same,X24,OB.row.injEq] at hx2
   obtain⟨rfl,rfl,rfl,rfl⟩:=hx2
   exact⟨Nat.le_refl _,fun _=>hpv _ (upd_same _ _ _)⟩
  intro r' hr'
  simp only[AV.refs,X14] at hr'
  subst hr'
  rw[hupd]
  simp
theorem QQ {obl:List (Option OB)} {cx:Cx} {o:Oper} {av:Operand->AV} {ρ:Operand->Value} {K:AV->W->Prop} {x:Operand} {args:Array Operand} {argTypes:Array Nat} {f:FuncId} {caps:List AV} {G:List AV->Prop}
  (hav :∀x,RepA S w φ (fun r=>obl.getD r none) (av x) (ρ x)/\Closed (fun r=>obl.getD r none) (av x)) (heq:o.op=.call ⟨.value x,args,argTypes⟩) (hf:av x=.fn f caps\/(av x=.d (.val (.func (.func f) #[] #[]))/\caps=[]))
  (snd :∀(asz:List AV) (vals:Array Value),All2 (fun a v=>RepA S w φ (fun r=>obl.getD r none) a v/\Closed (fun r=>obl.getD r none) a) asz vals.toList->G asz->
   ∃ out wr, K out wr ∧ (∀ r o, (r, o) ∈ wr → r < obl.length) ∧ (∃ fn, P.funcs[f]? = some fn ∧ fn.name ≠ "runtime.NumGoroutine" ∧ fn.body.isSome = true) ∧
    Calls P f vals w fun e w'=>∃v,e=.returned v/\Post E w S φ (fun r=>obl.getD r none) out wr v w')
  (h:G (F4 cx.T av args.toList argTypes.toList++caps)) :∃out wr,K out wr/\(∀r o,(r,o) ∈ wr->r<obl.length)/\RunOK P o ρ w (Post E w S φ (fun r=>obl.getD r none) out wr):=by
 have hnil :∀t x,RepA S w φ (fun r=>obl.getD r Option.none) (Eb cx.T t (av x)) (ρ x)/\Closed (fun r=>obl.getD r Option.none) (Eb cx.T t (av x)):=by
  intro t x
  unfold Eb
  split
  ·rename_i hn
   split
   ·have hx:=(hav x).1
    rw[Ja hn] at hx
    rw[hx.val]
    exact⟨.d _ _ (.nil _),A6 _ _⟩
   exact hav x
  exact hav x
 have hboth:RepA S w φ (fun r=>obl.getD r Option.none) (.fn f caps) (ρ x)/\Closed (fun r=>obl.getD r Option.none) (.fn f caps):=by
  rcases hf with hf | ⟨hf,rfl⟩
  ·rw[<- hf];exact hav x
  have h1:=(hav x).1
  rw[hf] at h1
  rw[h1.val]
  exact⟨.fn f [] #[] (fun _=>undef) rfl (fun i hi=>by simp at hi) (fun i hi=>by simp at hi),fun r hr=>by simp[AV.refs,AV.refs.refsL] at hr⟩
 obtain⟨hx,hcx⟩:=hboth
 generalize hv:ρ x=vx at hx
 cases hx with | fn _ _ vs g hs hgf hr=>
 have hall:All2 (fun a v=>RepA S w φ (fun r=>obl.getD r Option.none) a v/\Closed (fun r=>obl.getD r Option.none) a) (F4 cx.T av args.toList argTypes.toList++caps) (args.map ρ++vs).toList:=by
  rw[Array.toList_append,Array.toList_map]
  have h2 :∀(l:List AV) (k:List Value),l.length=k.length->(∀i (hi:i<l.length) (hi':i<k.length),RepA S w φ (fun r=>obl.getD r Option.none) l[i] k[i]/\Closed (fun r=>obl.getD r Option.none) l[i])->
    All2 (fun a v=>RepA S w φ (fun r=>obl.getD r Option.none) a v/\Closed (fun r=>obl.getD r Option.none) a) l k:=by
   intro l
   induction l with
   | nil=>intro k hk _;cases k with | nil=>exact .nil | cons=>simp at hk
   | cons a l ih=>
    intro k hk hh
    cases k with
    | nil=>simp at hk
    | cons b k=>exact .cons (hh 0 (by simp) (by simp)) (ih k (by simpa using hk) fun i hi hi'=>hh (i + 1) (by simpa using hi) (by simpa using hi'))
  have hcaps:=h2 caps vs.toList (by simp[hs]) (fun i hi hi'=>by
   have h1:=hgf i hi
   have:vs.toList[i]=g i:=by
    have:vs.toList[i]?=some (g i):=by simpa using h1
    rw[X15 hi'] at this
    exact X25 this
   rw[this]
   exact⟨hr i hi,fun r hr'=>hcx r (by simpa[AV.refs] using AV.refs_mem caps i hi r hr')⟩)
  have plain :∀l:List Operand,All2 (fun a v=>RepA S w φ (fun r=>obl.getD r Option.none) a v/\Closed (fun r=>obl.getD r Option.none) a) (l.map av++caps) (l.map ρ++vs.toList):=by
   intro l
   induction l with
   | nil=>exact hcaps
   | cons a l ih=>exact .cons ⟨(hav a).1,(hav a).2⟩ ih
  generalize argTypes.toList=ts
  induction args.toList generalizing ts with
  | nil=>exact hcaps
  | cons a l ih=>
   cases ts with
   | nil=>exact plain (a::l)
   | cons t ts=>exact .cons (hnil t a) (ih ts)
 obtain⟨out,wr,g1,g2,⟨fn,g3,g4,g5⟩,g6⟩:=snd _ _ hall h
 refine⟨out,wr,g1,g2,?_⟩
 have hrun:(execOp ρ o).run P w=.ok (.enter f (args.map ρ++vs)) w:=by
  unfold execOp;rw[heq]
  simp[resolve,hv,Deferred.ofValue,invoke,callFunc,g3,g4]
  intro hb
  simp[hb] at g5
 unfold RunOK
 rw[hrun]
 exact g6
theorem Ti {obl:List (Option OB)} {cx:Cx} {o:Oper} {av:Operand->AV} {ρ:Operand->Value} {x:Operand} {args:Array Operand} {argTypes:Array Nat} {f:FuncId} {caps:List AV} {Q:Value->World->Prop}
  (hav :∀x,RepA S w φ (fun r=>obl.getD r none) (av x) (ρ x)/\Closed (fun r=>obl.getD r none) (av x)) (heq:o.op=.call ⟨.value x,args,argTypes⟩) (hf:av x=.fn f caps\/(av x=.d (.val (.func (.func f) #[] #[]))/\caps=[]))
  (snd :∀(vals:Array Value),All2 (fun a v=>RepA S w φ (fun r=>obl.getD r none) a v/\Closed (fun r=>obl.getD r none) a) (F4 cx.T av args.toList argTypes.toList++caps) vals.toList->
   (∃ fn, P.funcs[f]? = some fn ∧ fn.name ≠ "runtime.NumGoroutine" ∧ fn.body.isSome = true) ∧ Calls P f vals w fun e w' => ∃ v, e = .returned v ∧ Q v w') : RunOK P o ρ w Q := by
 have hnil :∀t x,RepA S w φ (fun r=>obl.getD r Option.none) (Eb cx.T t (av x)) (ρ x)/\Closed (fun r=>obl.getD r Option.none) (Eb cx.T t (av x)):=by
  intro t x
  unfold Eb
  split
  ·rename_i hn
   split
   ·have hx:=(hav x).1
    rw[Ja hn] at hx
    rw[hx.val]
    exact⟨.d _ _ (.nil _),A6 _ _⟩
   exact hav x
  exact hav x
 have hboth:RepA S w φ (fun r=>obl.getD r Option.none) (.fn f caps) (ρ x)/\Closed (fun r=>obl.getD r Option.none) (.fn f caps):=by
  rcases hf with hf | ⟨hf,rfl⟩
  ·rw[<- hf];exact hav x
  have h1:=(hav x).1
  rw[hf] at h1
  rw[h1.val]
  exact⟨.fn f [] #[] (fun _=>undef) rfl (fun i hi=>by simp at hi) (fun i hi=>by simp at hi),fun r hr=>by simp[AV.refs,AV.refs.refsL] at hr⟩
 obtain⟨hx,hcx⟩:=hboth
 generalize hv:ρ x=vx at hx
 cases hx with | fn _ _ vs g hs hgf hr=>
 have hall:All2 (fun a v=>RepA S w φ (fun r=>obl.getD r Option.none) a v/\Closed (fun r=>obl.getD r Option.none) a) (F4 cx.T av args.toList argTypes.toList++caps) (args.map ρ++vs).toList:=by
  rw[Array.toList_append,Array.toList_map]
  have h2 :∀(l:List AV) (k:List Value),l.length=k.length->(∀i (hi:i<l.length) (hi':i<k.length),RepA S w φ (fun r=>obl.getD r Option.none) l[i] k[i]/\Closed (fun r=>obl.getD r Option.none) l[i])->
    All2 (fun a v=>RepA S w φ (fun r=>obl.getD r Option.none) a v/\Closed (fun r=>obl.getD r Option.none) a) l k:=by
   intro l
   induction l with
   | nil=>intro k hk _;cases k with | nil=>exact .nil | cons=>simp at hk
   | cons a l ih=>
    intro k hk hh
    cases k with
    | nil=>simp at hk
    | cons b k=>exact .cons (hh 0 (by simp) (by simp)) (ih k (by simpa using hk) fun i hi hi'=>hh (i + 1) (by simpa using hi) (by simpa using hi'))
  have hcaps:=h2 caps vs.toList (by simp[hs]) (fun i hi hi'=>by
   have h1:=hgf i hi
   have:vs.toList[i]=g i:=by
    have:vs.toList[i]?=some (g i):=by simpa using h1
    rw[X15 hi'] at this
    exact X25 this
   rw[this]
   exact⟨hr i hi,fun r hr'=>hcx r (by simpa[AV.refs] using AV.refs_mem caps i hi r hr')⟩)
  have plain :∀l:List Operand,All2 (fun a v=>RepA S w φ (fun r=>obl.getD r Option.none) a v/\Closed (fun r=>obl.getD r Option.none) a) (l.map av++caps) (l.map ρ++vs.toList):=by
   intro l
   induction l with
   | nil=>exact hcaps
   | cons a l ih=>exact .cons ⟨(hav a).1,(hav a).2⟩ ih
  generalize argTypes.toList=ts
  induction args.toList generalizing ts with
  | nil=>exact hcaps
  | cons a l ih=>
   cases ts with
   | nil=>exact plain (a::l)
   | cons t ts=>exact .cons (hnil t a) (ih ts)
 obtain⟨⟨fn,g3,g4,g5⟩,g6⟩:=snd _ hall
 have hrun:(execOp ρ o).run P w=.ok (.enter f (args.map ρ++vs)) w:=by
  unfold execOp;rw[heq]
  simp[resolve,hv,Deferred.ofValue,invoke,callFunc,g3,g4]
  intro hb
  simp[hb] at g5
 unfold RunOK
 rw[hrun]
 exact g6
theorem Gu {obl:List (Option OB)} (hT:TabOk P T) (m:Mem E w S φ (fun r=>obl.getD r none)) {t r n i k:Nat} {a x:AV} {va vx:Value} {K:AV->W->Prop} (har:a=.rref r n i k)
  (ha:RepA S w φ (fun r=>obl.getD r none) a va) (hx:RepA S w φ (fun r=>obl.getD r none) x vx) (h:Et T t r n i k x obl K) :
  ∃out wr w',K out wr/\(∀r o,(r,o) ∈ wr->r<obl.length)/\(Instr.storeAt t va vx).run P w=.ok () w'/\Post E w S φ (fun r=>obl.getD r none) out wr undef w':=by
 unfold Et at h
 rw[AH] at h
 obtain⟨hkn,h⟩:=h
 have hkn:=Ax hkn
 obtain⟨xd,wr,S',hK,m',k',hd',hx',hw'⟩:=Dj m (FrzExt.refl _) hx h
 rw[AH,Ar] at hK
 obtain⟨hne,q,hq,hK⟩:=hK
 have hqr:Ai (fun r=>obl.getD r none) wr r=some q:=by
  rw[EL wr _ r fun q hq e=>by
   simp only[List.all_eq_true] at hne
   have:=hne q hq
   rw[e] at this
   simp[Nat.beq_refl] at this]
  exact hq
 cases q with
 | box=>simp at hK
 | map=>simp at hK
 | amap=>simp at hK
 | gone=>simp at hK
 | row e sz es frz=>
  simp only at hK
  obtain⟨hn,hf,h⟩:=hK
  obtain rfl:=FZ.free_eq hf
  rw[AH] at h
  obtain⟨hsz,y,hy,h⟩:=h
  unfold E3 at h
  rw[D4,Ey] at h
  obtain⟨hle,h⟩:=h
  have hxn:=hd'.norm
  have hlen:=BW.1 hsz
  rw[har] at ha
  cases ha with | rref _ _ _ _ _ h1 hb hp=>
  obtain⟨_,h2⟩:=h1 _ _ _ _ hq
  obtain⟨hi,b,c,hφ,hv⟩:=h2 hn
  have hi':i<es.length:=by omega
  have hye:y=es[i]:=by rw[<- hy];simp[hi']
  obtain⟨_,g1,_,_⟩:=m'.obj r _ hqr
  have hov:y.cells.take k++xd.norm.cells++y.cells.drop (k + xd.norm.cells.length)=BG es[i].cells k xd.norm.cells:=by rw[hye];rfl
  rw[hov] at h
  have hle':k + xd.norm.cells.length<=sz:=by rw[hye,g1 i hi'] at hle;exact hle
  have fin :∀(z:D),z.cells=BG es[i].cells k xd.norm.cells->K .dead (wr++[(r,.row e sz (es.set i z) .no)])->∃out wr w',K out wr/\(∀r o,(r,o) ∈ wr->r<obl.length)/\(Instr.storeAt t va vx).run P w=.ok () w'/\Post E w S φ (fun r=>obl.getD r none) out wr undef w':=by
   intro z hz hK
   obtain⟨w',q1,S2,φ2,q2,q3,q4,q5⟩:=Gt (P:=P) m' hφ hqr rfl (fz':=.no) rfl (t:=t) (v:=vx) (by rw[(hT.of hkn).info1,D.norm_cells_length,hlen]) (fun _ _ _ _ h=>nomatch h) hxn hi' hle' hz
   refine⟨_,_,w',hK,fun r' o' hm=>?_,by rw[hv];exact q1,S2,φ2,by rw[AS];exact q2,by rw[AS];exact k'.trans q3,by rw[AS];exact q4,by rw[AS];exact q5⟩
   rcases X23.1 hm with hm | hm
   ·obtain⟨e',sz',es',f',p1,_⟩:=hw' r' o' hm
    exact Bh obl r' _ p1
   simp only[X14,X26] at hm
   rw[hm.1];exact Bh obl _ _ hq
  split at h
  ·obtain⟨_,rfl,h⟩:=h
   exact fin _ rfl h
  split at h
  ·rename_i z hz
   rw[AH] at h
   obtain⟨h0,_,rfl,h⟩:=h
   refine fin z ?_ h
   rw[hz]
   exact D.cells_plain (by simpa using h0)
  exact h.elim
theorem IW {obl:List (Option OB)} (hT:TabOk P T) (m:Mem E w S φ (fun r=>obl.getD r none)) {t r n i k q0 m0:Nat} {va vx:Value} {K:AV->W->Prop}
  (ha:RepA S w φ (fun r=>obl.getD r none) (.rref r n i k) va) (hx:RepA S w φ (fun r=>obl.getD r none) (.own q0 m0) vx) (hcx:Closed (fun r=>obl.getD r none) (.own q0 m0)) (h:En T t r n i k q0 m0 obl K) :
  ∃out wr w',K out wr/\(∀r o,(r,o) ∈ wr->r<obl.length)/\(Instr.storeAt t va vx).run P w=.ok () w'/\Post E w S φ (fun r=>obl.getD r none) out wr undef w':=by
 unfold En at h
 rw[AH] at h
 obtain⟨hkn,h⟩:=h
 have hkn:=Ax hkn
 obtain⟨xd,wr,S',hK,m',k',hd',hx',hw'⟩:=Dj m (FrzExt.refl _) hx h
 rw[AH,Ar] at hK
 obtain⟨hne,q,hq,hK⟩:=hK
 have hqr:Ai (fun r=>obl.getD r none) wr r=some q:=by
  rw[EL wr _ r fun q hq e=>by
   simp only[List.all_eq_true] at hne
   have:=hne q hq
   rw[e] at this
   simp[Nat.beq_refl] at this]
  exact hq
 cases q with
 | box=>simp at hK
 | map=>simp at hK
 | amap=>simp at hK
 | gone=>simp at hK
 | row e sz es frz=>
  simp only at hK
  obtain⟨hn,hf,h⟩:=hK
  rw[AH] at h
  obtain⟨hsz,y,hy,h⟩:=h
  unfold E3 at h
  rw[D4,Ey] at h
  obtain⟨hle,h⟩:=h
  have hxn:=hd'.norm
  have hlen:=BW.1 hsz
  cases ha with | rref _ _ _ _ _ h1 hb hp=>
  obtain⟨_,h2⟩:=h1 _ _ _ _ hq
  obtain⟨hi,b,c,hφ,hv⟩:=h2 hn
  have hi':i<es.length:=by omega
  have hye:y=es[i]:=by rw[<- hy];simp[hi']
  obtain⟨_,g1,_,_⟩:=m'.obj r _ hqr
  have hov:y.cells.take k++xd.norm.cells++y.cells.drop (k + xd.norm.cells.length)=BG es[i].cells k xd.norm.cells:=by rw[hye];rfl
  rw[hov] at h
  have hle':k + xd.norm.cells.length<=sz:=by rw[hye,g1 i hi'] at hle;exact hle
  have fin :∀(z:D),z.cells=BG es[i].cells k xd.norm.cells->K .dead (wr++[(r,.row e sz (es.set i z) (.lk i k q0 m0))])->∃out wr w',K out wr/\(∀r o,(r,o) ∈ wr->r<obl.length)/\(Instr.storeAt t va vx).run P w=.ok () w'/\Post E w S φ (fun r=>obl.getD r none) out wr undef w':=by
   intro z hz hK
   obtain⟨w',q1,S2,φ2,q2,q3,q4,q5⟩:=Gt (P:=P) m' hφ hqr hf (fz':=.lk i k q0 m0) rfl (t:=t) (v:=vx) (by rw[(hT.of hkn).info1,D.norm_cells_length,hlen]) (fun i' j' q' n' hq'=>by
    simp only[FZ.lk.injEq] at hq'
    obtain⟨rfl,rfl,rfl,rfl⟩:=hq'
    refine⟨rfl,rfl,k'.c _ (hcx _ (by simp[AV.refs])),?_,k'.rep hcx hx⟩
    cases hx with | own _ _ _ _ _ _ hv0=>
    rw[hv0];rfl) hxn hi' hle' hz
   refine⟨_,_,w',hK,fun r' o' hm=>?_,by rw[hv];exact q1,S2,φ2,by rw[AS];exact q2,by rw[AS];exact k'.trans q3,by rw[AS];exact q4,by rw[AS];exact q5⟩
   rcases X23.1 hm with hm | hm
   ·obtain⟨e',sz',es',f',p1,_⟩:=hw' r' o' hm
    exact Bh obl r' _ p1
   simp only[X14,X26] at hm
   rw[hm.1];exact Bh obl _ _ hq
  split at h
  ·obtain⟨_,rfl,h⟩:=h
   exact fin _ rfl h
  split at h
  ·rename_i z hz
   rw[AH] at h
   obtain⟨h0,_,rfl,h⟩:=h
   refine fin z ?_ h
   rw[hz]
   exact D.cells_plain (by simpa using h0)
  exact h.elim
theorem FP {obl:List (Option OB)} {cx:Cx} (hT:TabOk P cx.T) (hC:OU E.wl P cx) (m:Mem E w S φ (fun r=>obl.getD r none)) {o:Oper} {av:Operand->AV} {ρ:Operand->Value} {K:AV->W->Prop}
  (hav :∀x,RepA S w φ (fun r=>obl.getD r none) (av x) (ρ x)/\Closed (fun r=>obl.getD r none) (av x)) (h:opK cx o av obl K) :
  ∃out wr,K out wr/\(∀r o,(r,o) ∈ wr->r<obl.length)/\RunOK P o ρ w (Post E w S φ (fun r=>obl.getD r none) out wr):=by
 have none :∀r o,(r,o) ∈ ([]:W)->r<obl.length:=fun _ _ hm=>by simp at hm
 have scalar :∀{s:Sem Value} {K:AV->Prop},FW K (s.run P w) w->(execOp ρ o=(do pure (.value (← s))))->∃out,K out/\RunOK P o ρ w (Post E w S φ (fun r=>obl.getD r Option.none) out []):=by
  rintro s K ⟨u,h1,h2,h3⟩ he
  refine⟨_,h2,RunOK.value (u:=u) (w':=w) ?_ (J1 m h1)⟩
  rw[he,Sem.run_bind,h3,Result.andThen_ok]
  rfl
 have pureV :∀{s:Sem Value} {out:AV} {u:Value},s.run P w=.ok u w->RepA S w φ (fun r=>obl.getD r Option.none) out u->Closed (fun r=>obl.getD r Option.none) out->(execOp ρ o=(do pure (.value (← s))))->
   RunOK P o ρ w (Post E w S φ (fun r=>obl.getD r Option.none) out []):=by
  intro s out u h1 h2 h3 he
  refine RunOK.value (u:=u) (w':=w) ?_ (Post.pure m h2 h3)
  rw[he,Sem.run_bind,h1,Result.andThen_ok]
  rfl
 have parts :∀(ps:Array (Nat×Operand)),If S w φ (fun r=>obl.getD r Option.none) (ps.toList.map fun (i,x)=>(i,av x)) (ps.map fun (i,x)=>(i,ρ x)).toList:=by
  intro ps
  rw[Array.toList_map]
  induction ps.toList with
  | nil=>exact .nil
  | cons p l ih=>exact .cons ⟨rfl,(hav p.2).1,(hav p.2).2⟩ ih
 have hnil :∀t x,RepA S w φ (fun r=>obl.getD r Option.none) (Eb cx.T t (av x)) (ρ x)/\Closed (fun r=>obl.getD r Option.none) (Eb cx.T t (av x)):=by
  intro t x
  unfold Eb
  split
  ·rename_i hn
   split
   ·have hx:=(hav x).1
    rw[Ja hn] at hx
    rw[hx.val]
    exact⟨.d _ _ (.nil _),A6 _ _⟩
   exact hav x
  exact hav x
 unfold opK at h
 split at h<;>rename_i heq
 ·rename_i x
  have hm:(execOp ρ o).run P w=.ok (.value (ρ x)) w:=by unfold execOp;rw[heq];rfl
  split at h
  ·rename_i cv
   unfold SC at h
   split at h
   ·rename_i hn
    have hrx:=(hav (.const cv)).1
    rw[Ja hn] at hrx
    have hvx:=hrx.val
    split at h
    ·rename_i e hk
     split at h
     ·rename_i hs
      rw[AH] at h
      obtain⟨hpos,hK⟩:=h
      obtain⟨hs1,hs2⟩:=CN hs
      obtain⟨m1,k1⟩:=m.empty (cx.np + o.dst.getD 0) e (cx.T.get e).size hs1 (X29 hpos)
      refine⟨_,_,hK,fun r o hm=>?_,RunOK.value hm ?_⟩
      ·simp only[X14,X26] at hm
       rw[hm.1];exact hs2
      exact Gj (zs:=[]) m1 k1 (.inl ⟨upd_same _ _ _,rfl,_,hvx⟩) rfl
     refine⟨_,_,h,none,RunOK.value hm (Post.pure m ?_ (A6 _ _))⟩
     rw[hvx]
     exact .d _ _ (.nil _)
    exact h.elim
   rw[CB] at h
   exact⟨_,_,h,none,RunOK.value hm (Post.pure m (hav _).1 (hav _).2)⟩
  rw[CB] at h
  exact⟨_,_,h,none,RunOK.value hm (Post.pure m (hav x).1 (hav x).2)⟩
 ·rename_i x
  have hm:(execOp ρ o).run P w=.ok (.value (ρ x)) w:=by unfold execOp;rw[heq];rfl
  split at h
  ·rename_i cv
   unfold SC at h
   split at h
   ·rename_i hn
    have hrx:=(hav (.const cv)).1
    rw[Ja hn] at hrx
    have hvx:=hrx.val
    split at h
    ·rename_i e hk
     split at h
     ·rename_i hs
      rw[AH] at h
      obtain⟨hpos,hK⟩:=h
      obtain⟨hs1,hs2⟩:=CN hs
      obtain⟨m1,k1⟩:=m.empty (cx.np + o.dst.getD 0) e (cx.T.get e).size hs1 (X29 hpos)
      refine⟨_,_,hK,fun r o hm=>?_,RunOK.value hm ?_⟩
      ·simp only[X14,X26] at hm
       rw[hm.1];exact hs2
      exact Gj (zs:=[]) m1 k1 (.inl ⟨upd_same _ _ _,rfl,_,hvx⟩) rfl
     refine⟨_,_,h,none,RunOK.value hm (Post.pure m ?_ (A6 _ _))⟩
     rw[hvx]
     exact .d _ _ (.nil _)
    exact h.elim
   rw[CB] at h
   exact⟨_,_,h,none,RunOK.value hm (Post.pure m (hav _).1 (hav _).2)⟩
  rw[CB] at h
  exact⟨_,_,h,none,RunOK.value hm (Post.pure m (hav x).1 (hav x).2)⟩
 ·rename_i c a b
  unfold Ux at h
  split at h
  ·rename_i t hct
   have hc:=(hav c).1
   rw[hct] at hc
   have hcv:=hc.bool
   have hm:(execOp ρ o).run P w=.ok (.value (if t then ρ a else ρ b)) w:=by
    unfold execOp;rw[heq]
    simp[hcv,asBool]
   split at h
   ·rename_i x y ha hb
    have ha':=(hav a).1;rw[ha] at ha'
    have hb':=(hav b).1;rw[hb] at hb'
    refine⟨_,_,h,none,RunOK.value hm ?_⟩
    rw[ha'.bool,hb'.bool]
    have:(if t=true then Value.bool x else Value.bool y)=.bool (cond t x y):=by cases t<;>rfl
    rw[this]
    exact J1 m rfl
   cases t with
   | true=>
    simp only[CB] at h
    exact⟨_,_,h,none,RunOK.value hm (Post.pure m (by simpa using (hav a).1) (hav a).2)⟩
   | false=>
    simp only[CB] at h
    exact⟨_,_,h,none,RunOK.value hm (Post.pure m (by simpa using (hav b).1) (hav b).2)⟩
  exact h.elim
 ·rename_i t
  rw[AH,B2] at h
  obtain⟨hkn,hs,hK⟩:=h
  obtain⟨hs1,hs2⟩:=CN hs
  have hti:=hT.of (Ax hkn)
  obtain⟨i,z,hi,_,_,hz,_⟩:=hti.info
  obtain⟨⟨z1,z2⟩,z3⟩:=Nl (S:=S) (w:=w) (φ:=φ) (ob:=fun r=>obl.getD r Option.none) hT (Ax hkn) hi hz
  refine⟨_,_,hK,fun r o hm=>?_,RunOK.value (u:=.pointer (some ⟨w.heap.size,0,Option.none⟩)) (w':=w.alloc (.cells z.cells t)) ?_ (Ry m t hs1 z1 z2 z3)⟩
  ·simp only[X14,X26] at hm
   rw[hm.1];exact hs2
  unfold execOp;rw[heq]
  simp[W7 hi hz]
 ·rename_i t x
  rw[B2] at h
  obtain⟨hs,h⟩:=h
  rw[Ef] at h
  obtain⟨l,hl,h⟩:=h
  rw[AH] at h
  obtain⟨hs1,hs2⟩:=CN hs
  obtain⟨r1,r2⟩:=Nu (hav x).1 hl
  refine⟨_,_,h.2,fun r o hm=>?_,RunOK.value (u:=.pointer (some ⟨w.heap.size,0,Option.none⟩)) (w':=w.alloc (.cells (ρ x).cells t)) ?_ (Ry m t hs1 r1 r2 (Ih (hav x).2 hl))⟩
  ·simp only[X14,X26] at hm
   rw[hm.1];exact hs2
  unfold execOp;rw[heq]
  simp[Instr.box,newVar,newRow]
 ·rename_i t ps
  obtain⟨out,u,h1,h2,h3,h4⟩:=Td hT (parts ps) h
  exact⟨out,[],h1,none,pureV h2 h3 h4 (by unfold execOp;rw[heq])⟩
 ·rename_i t len ps
  obtain⟨out,wr,u,w',h1,h2,h3,h4⟩:=M1 hT m (parts ps) h
  refine⟨out,wr,h1,h2,RunOK.value (u:=u) (w':=w') ?_ h4⟩
  unfold execOp;rw[heq]
  simp[h3]
 ·rename_i t x
  obtain⟨out,u,h1,h2,h3,h4⟩:=Uf hT m (hav x).1 (hav x).2 (hC.1 ▸ h)
  exact⟨out,[],h1,none,pureV h2 h3 h4 (by unfold execOp;rw[heq])⟩
 ·rename_i t a x
  rcases MN h with ⟨r,n,i,k,q,mm,har,hxr,h⟩|⟨r,n,i,k,cs,har,hxr,h⟩|⟨h,_⟩
  rotate_left
  ·have hx:=hnil t x
   rw[hxr] at hx
   obtain⟨out,wr,w',h1,h2,h3,h4⟩:=Gu (P:=P) hT m har (hav a).1 hx.1 h
   refine⟨out,wr,h1,h2,RunOK.skip (w':=w') ?_ h4⟩
   unfold execOp;rw[heq]
   simp[h3]
  rotate_left
  ·have hx:=hnil t x
   rw[hxr] at hx
   have ha:=(hav a).1
   rw[har] at ha
   obtain⟨out,wr,w',h1,h2,h3,h4⟩:=IW (P:=P) hT m ha hx.1 hx.2 h
   refine⟨out,wr,h1,h2,RunOK.skip (w':=w') ?_ h4⟩
   unfold execOp;rw[heq]
   simp[h3]
  unfold K1 at h
  rw[AH] at h
  obtain⟨hkn,h⟩:=h
  have hkn:=Ax hkn
  split at h
  ·rename_i r off har
   rw[Ar] at h
   obtain⟨q,hq,h⟩:=h
   cases q with
   | row=>simp at h
   | map=>simp at h
   | amap=>simp at h
   | gone=>simp at h
   | box cs=>
    simp only[Ef,AH,Ey] at h
    obtain⟨l,hl,hsz,hle,hK⟩:=h
    obtain⟨r1,r2⟩:=Nu (hnil t x).1 hl
    have ha:=(hav a).1
    rw[har] at ha
    obtain⟨b,c,hφ,hv⟩:=ha.ref'
    have hcl:=Ih (hnil t x).2 hl
    obtain⟨w',g1,g2⟩:=OS m hφ hq (t:=t) (by rw[(hT.of hkn).info1,BW.1 hsz]) r1 r2 hcl hle
    refine⟨_,_,hK,fun r' o hm=>?_,RunOK.skip (w':=w') ?_ g2⟩
    ·simp only[X14,X26] at hm
     rw[hm.1];exact Bh obl _ _ hq
    unfold execOp;rw[heq]
    simp[hv,g1]
  ·rename_i r n i k har
   rw[Ar] at h
   obtain⟨q,hq,h⟩:=h
   cases q with
   | box=>simp at h
   | map=>simp at h
   | amap=>simp at h
   | gone=>simp at h
   | row e sz es frz=>
    simp only at h
    obtain⟨hn,hf,h⟩:=h
    obtain rfl:=FZ.free_eq hf
    split at h
    ·rename_i xd hxd
     rw[AH] at h
     obtain⟨hsz,y,hy,h⟩:=h
     unfold E3 at h
     rw[D4,Ey] at h
     obtain⟨hle,h⟩:=h
     have hx:=(hnil t x).1
     rw[hxd] at hx
     cases hx with | d _ _ hx=>
     have hxn:=hx.norm
     have ha:=(hav a).1
     rw[har] at ha
     have hlen:=BW.1 hsz
     cases ha with | rref _ _ _ _ _ h1 hb hp=>
     obtain⟨_,h2⟩:=h1 _ _ _ _ hq
     obtain⟨hi,b,c,hφ,hv⟩:=h2 hn
     have hi':i<es.length:=by omega
     have hye:y=es[i]:=by rw[<- hy];simp[hi']
     obtain⟨_,g1,_,_⟩:=m.obj r _ hq
     have hov:y.cells.take k++xd.norm.cells++y.cells.drop (k + xd.norm.cells.length)=BG es[i].cells k xd.norm.cells:=by rw[hye];rfl
     rw[hov] at h
     have hle':k + xd.norm.cells.length<=sz:=by rw[hye,g1 i hi'] at hle;exact hle
     have fin :∀(z:D),z.cells=BG es[i].cells k xd.norm.cells->K .dead [(r,.row e sz (es.set i z) .no)]->∃out wr,K out wr/\(∀r o,(r,o) ∈ wr->r<obl.length)/\RunOK P o ρ w (Post E w S φ (fun r=>obl.getD r Option.none) out wr):=by
      intro z hz hK
      obtain⟨w',q1,q2⟩:=Gt m hφ hq rfl (fz':=.no) rfl (t:=t) (v:=ρ x) (by rw[(hT.of hkn).info1,D.norm_cells_length,hlen]) (fun _ _ _ _ h=>nomatch h) hxn hi' hle' hz
      refine⟨_,_,hK,fun r' o hm=>?_,RunOK.skip (w':=w') ?_ q2⟩
      ·simp only[X14,X26] at hm
       rw[hm.1];exact Bh obl _ _ hq
      unfold execOp;rw[heq]
      simp[hv,q1]
     split at h
     ·obtain⟨_,rfl,h⟩:=h
      exact fin _ rfl h
     split at h
     ·rename_i z hz
      rw[AH] at h
      obtain⟨h0,_,rfl,h⟩:=h
      refine fin z ?_ h
      rw[hz]
      exact D.cells_plain (by simpa using h0)
     exact h.elim
    exact h.elim
  exact h.elim
 ·rename_i x
  have hx:=(hav x).1
  have hc:=(hav x).2
  have go :∀(hK:K (av x) []) (hm:(execOp ρ o).run P w=.ok (.value (ρ x)) w),∃out wr,K out wr/\(∀r o,(r,o) ∈ wr->r<obl.length)/\RunOK P o ρ w (Post E w S φ (fun r=>obl.getD r Option.none) out wr):=
   fun hK hm=>⟨_,_,hK,none,RunOK.value hm (Post.pure m hx hc)⟩
  split at h
  ·rename_i r off har
   refine go (har ▸ h) ?_
   rw[har] at hx
   obtain⟨b,c,_,hv⟩:=hx.ref'
   unfold execOp;rw[heq];dsimp only;rw[hv];rfl
  ·rename_i cs har
   refine go (har ▸ h) ?_
   rw[har] at hx
   generalize hv:ρ x=vx at hx
   cases hx with | eref=>
   unfold execOp;rw[heq];dsimp only;rw[hv];rfl
  ·rename_i r n i k har
   refine go (har ▸ h) ?_
   rw[har] at hx
   generalize hv:ρ x=vx at hx
   cases hx with | rref _ _ _ _ _ _ _ hp=>
   obtain⟨a,hp⟩:=hp
   unfold execOp;rw[heq];dsimp only;rw[hv,hp];rfl
  ·rename_i f caps har
   refine go (har ▸ h) ?_
   rw[har] at hx
   generalize hv:ρ x=vx at hx
   cases hx with | fn=>
   unfold execOp;rw[heq];dsimp only;rw[hv];rfl
  ·rename_i g p q har
   refine go (har ▸ h) ?_
   rw[har] at hx
   have hv:=hx.val
   unfold execOp;rw[heq];dsimp only;rw[hv];rfl
  exact h.elim
 ·rename_i op t x y ty
  obtain⟨out,h1,h2⟩:=scalar (WG (ox:=x) (oy:=y) hT (hav x).1 (hav y).1 h) (by unfold execOp;rw[heq])
  exact⟨out,[],h1,none,h2⟩
 ·rename_i op t x
  obtain⟨out,h1,h2⟩:=scalar (Xo (hav x).1 h) (by unfold execOp;rw[heq])
  exact⟨out,[],h1,none,h2⟩
 ·rename_i src dst x
  obtain⟨out,h1,h2⟩:=scalar (UP hT m (hav x).1 h) (by unfold execOp;rw[heq])
  exact⟨out,[],h1,none,h2⟩
 ·rename_i t x i
  obtain⟨off,s,ft,fs,h,hkind,hi,hs⟩:=Pq hT h
  have hx:=(hav x).1
  have hc:=(hav x).2
  split at h
  ·rename_i r o' har
   rw[har] at hx hc
   generalize hv:ρ x=vx at hx
   cases hx with | ref _ _ b c hφ hb=>
   refine⟨_,_,h,none,pureV (Jx hkind hi hs b o') (.ref r _ b c hφ hb) (fun r' hr'=>hc r' (by simpa[AV.refs] using hr')) ?_⟩
   unfold execOp;rw[heq];dsimp only;rw[hv]
  ·rename_i cs har
   rw[har] at hx
   simp only[Dl,C6] at h
   generalize hv:ρ x=vx at hx
   cases hx with | eref _ b o' f hS hn hr=>
   refine⟨_,_,h,none,pureV (Jx hkind hi hs b o') ?_ (fun r' hr'=>by simp[AV.refs] at hr') ?_⟩
   ·refine .eref _ b _ (fun j=>f (off + j)) (fun j hj=>?_) (fun j hj=>?_) fun j hj=>?_
    ·simp only[X18,X17] at hj
     rw[Nat.add_assoc]
     exact hS _ (by omega)
    ·simp only[List.getElem_take,List.getElem_drop]
     exact hn _ _
    simp only[List.getElem_take,List.getElem_drop]
    exact hr _ _
   unfold execOp;rw[heq];dsimp only;rw[hv]
  ·rename_i r n j k har
   rw[har] at hx hc
   generalize hv:ρ x=vx at hx
   cases hx with | rref _ _ _ _ _ h1 hb hp=>
   obtain⟨⟨ab,ao,asp⟩,hp⟩:=hp
   subst hp
   rw[Ar] at h
   obtain⟨q,hq,h⟩:=h
   cases q with
   | box cs=>simp at h
   | map=>simp at h
   | amap=>simp at h
   | gone=>simp at h
   | row e sz es frz=>
    simp only at h
    obtain⟨hn,h⟩:=h
    obtain⟨_,h2⟩:=h1 e sz es frz hq
    obtain⟨hj,b,c,hφ,hv2⟩:=h2 hn
    simp only[Value.pointer.injEq,X24,Addr.mk.injEq] at hv2
    obtain⟨rfl,rfl,rfl⟩:=hv2
    refine⟨_,_,h,none,pureV (Jx hkind hi hs ab (c.2 + (j * sz + k))) (.rref r n j _ _ (fun e2 sz2 es2 f2 hx2=>?_) (fun cs hx2=>by rw[hq] at hx2;simp at hx2) ⟨_,rfl⟩) (fun r' hr'=>hc r' (by simpa[AV.refs] using hr')) ?_⟩
    ·rw[hq] at hx2
     simp only[X24,OB.row.injEq] at hx2
     obtain⟨rfl,rfl,rfl,rfl⟩:=hx2
     exact⟨by omega,fun _=>⟨hj,ab,c,hφ,by rw[Nat.add_assoc,Nat.add_assoc]⟩⟩
    unfold execOp;rw[heq];dsimp only;rw[hv]
  exact h.elim
 ·rename_i t x i
  obtain⟨out,u,h1,h2,h3,h4⟩:=TM hT (hav x).1 (hav x).2 h
  exact⟨out,[],h1,none,pureV h2 h3 h4 (by unfold execOp;rw[heq])⟩
 ·rename_i t x y
  obtain⟨out,u,h1,h2,h3,h4⟩:=NA hT (hav x).1 (hav x).2 (hav y).1 h
  exact⟨out,[],h1,none,pureV h2 h3 h4 (by unfold execOp;rw[heq])⟩
 ·rename_i t x y
  obtain⟨out,u,h1,h2,h3,h4⟩:=Su hT (hav x).1 (hav x).2 (hav y).1 h
  exact⟨out,[],h1,none,pureV h2 h3 h4 (by unfold execOp;rw[heq])⟩
 ·rename_i t
  split at h
  ·rename_i k e hk
   rw[B2] at h
   obtain⟨hself,hK⟩:=h
   obtain⟨hs1,hs2⟩:=CN hself
   obtain⟨w',h1,h2⟩:=Q4 (P:=P) (t:=t) (k:=k) (e:=e) m hs1
   refine⟨_,_,hK,fun r o hm=>?_,RunOK.value (w':=w') ?_ h2⟩
   ·simp only[X14,X26] at hm
    rw[hm.1];exact hs2
   unfold execOp;rw[heq]
   simp[h1]
  exact h.elim
 ·rename_i t x y ok
  obtain⟨out,u,h1,h2,h3,h4⟩:=Tn hT m (hav x).1 (hav y).1 (hC.1 ▸ h)
  exact⟨out,[],h1,none,pureV h2 h3 h4 (by unfold execOp;rw[heq])⟩
 ·rename_i t mm k v
  obtain⟨out,wr,w',h1,h2,h3,h4⟩:=Ks hT m (hav mm).1 (hav k).1 (hav v).1 (hav v).2 h
  refine⟨out,wr,h1,h2,RunOK.skip (w':=w') ?_ h4⟩
  unfold execOp;rw[heq]
  simp[h3]
 ·rename_i t mm k v
  obtain⟨out,wr,w',h1,h2,h3,h4⟩:=Ks hT m (hav mm).1 (hav k).1 (hav v).1 (hav v).2 h
  refine⟨out,wr,h1,h2,RunOK.skip (w':=w') ?_ h4⟩
  unfold execOp;rw[heq]
  simp[h3]
 ·rename_i t x lo hi
  have bd :∀(q:Option Operand) (i:Int),(∃k,q.map av=some (.d (.val (.int k i))))->∃k,q.map ρ=some (.int k i):=by
   rintro q i ⟨k,hk⟩
   cases q with
   | none=>simp at hk
   | some y=>
    simp only[Option.map_some,X24] at hk
    have hy:=(hav y).1
    rw[hk] at hy
    exact⟨k,by simp only[Option.map_some,hy.int]⟩
  have bn :∀(q:Option Operand),q.map av=Option.none->q.map ρ=Option.none:=by
   intro q hq
   cases q with
   | none=>rfl
   | some y=>simp at hq
  have hb :∀(o:Option AV) (dflt:Int) (K:Int->Prop),Dc o dflt K->∃i,(o=Option.none/\i=dflt \/∃k,o=some (.d (.val (.int k i))))/\K i:=by
   intro o dflt K hk
   unfold Dc at hk
   split at hk
   ·exact⟨dflt,.inl ⟨rfl,rfl⟩,hk⟩
   ·exact⟨_,.inr ⟨_,rfl⟩,hk⟩
   exact hk.elim
  have F :∀{e:Nat} {xa:AV},(cx.T.get t).kind=.slice e->RepA S w φ (fun r=>obl.getD r Option.none) xa (ρ x)->Jm cx.T e xa (lo.map av) (hi.map av) obl K->
    ∃out wr,K out wr/\(∀r o,(r,o) ∈ wr->r<obl.length)/\RunOK P o ρ w (Post E w S φ (fun r=>obl.getD r Option.none) out wr):=by
   intro e xa hk hxa h
   unfold Jm at h
   rw[AH] at h
   obtain⟨hkn,h⟩:=h
   obtain⟨d,wr,S',hK,m',k',hd,hx',hw'⟩:=Dj m (FrzExt.refl _) hxa h
   obtain⟨es,l,u,rfl,hl,hh,c1,c2,c3,hK⟩:=WF hK
   obtain⟨a,n,cap,hv⟩ :∃a n cap,ρ x=.slice a n cap:=by
    generalize ρ x=v at hd
    cases hd<;>exact⟨_,_,_,rfl⟩
   rw[hv] at hd
   obtain⟨e1,e2,hr⟩:=hd.part (l:=l.toNat) (h:=u.toNat) (by omega) (by omega)
   obtain⟨ie,z,hie,hi1,_⟩:=(hT.of (Ax hkn)).info
   have hrun:=HG (P:=P) (w:=w) (A2 hT hk) hie (a:=a) (len:=n) (cap:=cap) (lo:=lo.map ρ) (hi':=hi.map ρ) (l:=l.toNat) (h:=u.toNat)
    (hl.imp (fun q=>⟨bn _ q.1,by omega⟩) fun q=>by
     obtain⟨k,hk⟩:=bd _ _ q
     exact⟨k,by rw[hk];congr 2;omega⟩)
    (hh.imp (fun q=>⟨bn _ q.1,by omega⟩) fun q=>by
     obtain⟨k,hk⟩:=bd _ _ q
     exact⟨k,by rw[hk];congr 2;omega⟩) (by omega) (by omega) e2
   refine⟨_,wr,hK,fun r o hm=>?_,RunOK.value (u:=.slice (if cap=l.toNat then a else a.map (·.add (l.toNat * ie.size))) (u.toNat - l.toNat) (cap - l.toNat)) (w':=w) ?_ ⟨S',φ,m',k',.d _ _ ?_,A6 _ _⟩⟩
   ·obtain⟨e',sz',es',f',q1,_⟩:=hw' r o hm
    exact Bh obl r _ q1
   ·unfold execOp;rw[heq]
    simp[hv,hrun]
   rw[hi1]
   exact hr
  unfold Oz at h
  split at h
  ·rename_i e hk
   split at h
   ·rename_i r n hxo
    have hxa:=(hnil t x).1
    have hxc:=(hnil t x).2
    rw[hxo] at hxa hxc
    rcases h with h | h | h
    ·exact F hk hxa h
    ·
     unfold QS at h
     rw[AH,Ar] at h
     obtain⟨hkn,ob,ho,h⟩:=h
     cases ob with
     | box=>simp at h
     | map=>simp at h
     | amap=>simp at h
     | gone=>simp at h
     | row e' sz es frz=>
      simp only[AH] at h
      obtain⟨hsz,h⟩:=h
      have hsz':=BW.1 hsz
      obtain⟨l,hl,h⟩:=hb _ _ _ h
      obtain⟨u,hh,⟨c1,c2,c3⟩,hn,a,k,ha,hkk,hK⟩:=hb _ _ _ h
      obtain⟨ie,z,hie,hi1,_⟩:=(hT.of (Ax hkn)).info
      obtain⟨g0,g1,g2,g3⟩:=m.obj r _ ho
      generalize hv:ρ x=vx at hxa
      cases hxa with | own _ _ _ kk c a0 hv0 hkn0 h1 hbx=>
      have hown:=(h1 e' sz es frz ho).2 hn
      subst hv0
      have hlc:kk<=c/\kk=es.length:=by
       refine⟨?_,by omega⟩
       rcases hown with ⟨_,p2,a9,p3⟩|⟨b,cap,p1,p2⟩
       ·simp only[Value.slice.injEq] at p3;omega
       simp only[Value.slice.injEq] at p2
       obtain⟨_,p3,p4⟩:=p2
       rcases g3 with ⟨f1,_⟩|⟨b',cap',vs,f,f1,f2,f3,_⟩
       ·rw[f1] at p1;simp at p1
       rw[f1] at p1
       simp only[X24,X26] at p1
       obtain⟨rfl,rfl⟩:=p1
       omega
      have hrun:=HG (P:=P) (w:=w) (A2 hT hk) hie (a:=a0) (len:=kk) (cap:=c) (lo:=lo.map ρ) (hi':=hi.map ρ) (l:=l.toNat) (h:=u.toNat)
       (hl.imp (fun q=>⟨bn _ q.1,by omega⟩) fun q=>by
        obtain⟨k,hk⟩:=bd _ _ q
        exact⟨k,by rw[hk];congr 2;omega⟩)
       (hh.imp (fun q=>⟨bn _ q.1,by omega⟩) fun q=>by
        obtain⟨k,hk⟩:=bd _ _ q
        exact⟨k,by rw[hk];congr 2;omega⟩) (by omega) (by omega) (by omega)
      refine⟨_,_,hK,none,RunOK.value (u:=.slice (if c=l.toNat then a0 else a0.map (·.add (l.toNat * ie.size))) (u.toNat - l.toNat) (c - l.toNat)) (w':=w) ?_ (Post.pure m (.osl r a k n _ _ _ _ rfl hkk fun e2 sz2 es2 f2 hx2=>?_) fun r' hr'=>hxc r' (by simpa[AV.refs] using hr'))⟩
      ·unfold execOp;rw[heq]
       simp[hv,hrun]
      rw[ho] at hx2
      simp only[X24,OB.row.injEq] at hx2
      obtain⟨rfl,rfl,rfl,rfl⟩:=hx2
      refine⟨by omega,fun _=>⟨by omega,?_,fun ha0=>?_⟩⟩
      rotate_left
      ·have hl0:l.toNat=0:=by omega
       rcases hown with ⟨p1,p2,a9,p3⟩|⟨b,cap,p1,p2⟩
       ·simp only[Value.slice.injEq] at p3
        obtain⟨_,_,p4⟩:=p3
        refine .inl ⟨p1,by omega,a0,?_⟩
        rw[hl0,p4]
        simp
        omega
       simp only[Value.slice.injEq] at p2
       obtain⟨rfl,p3,rfl⟩:=p2
       refine .inr ⟨b,cap,p1,?_⟩
       rw[hl0]
       simp only[Nat.sub_zero,Nat.zero_mul,Value.slice.injEq]
       refine⟨?_,by omega,by first | rfl | trivial⟩
       split
       ·rfl
       simp[Addr.add]
      by_cases hk0:k=0
      ·exact .inl hk0
      right
      rcases hown with ⟨_,p2,a9,p3⟩|⟨b,cap,p1,p2⟩
      ·omega
      simp only[Value.slice.injEq] at p2
      obtain⟨rfl,p3,rfl⟩:=p2
      refine⟨b,cap,cap.1 - l.toNat,p1,?_,by omega⟩
      rw[if_neg (by omega),hkk]
      simp only[Option.map_some,Addr.add_none,hi1,<- hsz',ha]
    ·
     have br :∀(q:Option Operand),BR S w φ (fun r=>obl.getD r Option.none) (q.map av) (q.map ρ):=by
      intro q
      cases q with
      | none=>exact .inl ⟨rfl,rfl⟩
      | some y=>exact .inr ⟨_,_,rfl,rfl,(hav y).1⟩
     obtain⟨out,wr,u,h1,h2,h3,h4⟩:=MF (P:=P) hT m hk (br lo) (br hi) (mx':=Option.none) (.inl ⟨rfl,rfl⟩) (fun h=>absurd rfl h) hxa h
     refine⟨out,wr,h1,h2,RunOK.value (u:=u) (w':=w) ?_ h4⟩
     unfold execOp;rw[heq]
     simp[h3]
   ·rename_i szn hxo
    have hxa:=(hnil t x).1
    rw[hxo] at hxa
    rcases h with h | h
    ·exact F hk hxa h
    rw[AH] at h
    obtain⟨hkn,h⟩:=h
    obtain⟨l,hl,h⟩:=hb _ _ _ h
    obtain⟨u,hh,⟨rfl,rfl⟩,hK⟩:=hb _ _ _ h
    obtain⟨ie,z,hie,hi1,_⟩:=(hT.of (Ax hkn)).info
    generalize hv:ρ x=vx at hxa
    cases hxa with | d _ _ hxa=>
    cases hxa with | nil=>
    have hrun:=HG (P:=P) (w:=w) (A2 hT hk) hie (a:=Option.none) (len:=0) (cap:=0) (lo:=lo.map ρ) (hi':=hi.map ρ) (l:=0) (h:=0)
     (hl.imp (fun q=>⟨bn _ q.1,rfl⟩) fun q=>by
      obtain⟨k,hk⟩:=bd _ _ q
      exact⟨k,by rw[hk];rfl⟩)
     (hh.imp (fun q=>⟨bn _ q.1,rfl⟩) fun q=>by
      obtain⟨k,hk⟩:=bd _ _ q
      exact⟨k,by rw[hk];rfl⟩) (Nat.le_refl _) (Nat.le_refl _) (Nat.le_refl _)
    refine⟨_,_,hK,none,RunOK.value (u:=.slice Option.none 0 0) (w':=w) ?_ (Post.pure m (.d _ _ (.nil _)) (A6 _ _))⟩
    unfold execOp;rw[heq]
    simp at hrun
    simp[hv,hrun]
   exact F hk (hnil t x).1 h
  ·rename_i hk
   split at h
   ·rename_i s hxs
    have hb :∀(o:Option AV) (dflt:Int) (K:Int->Prop),Dc o dflt K->∃i,(o=Option.none/\i=dflt \/∃k,o=some (.d (.val (.int k i))))/\K i:=by
     intro o dflt K hk
     unfold Dc at hk
     split at hk
     ·exact⟨dflt,.inl ⟨rfl,rfl⟩,hk⟩
     ·exact⟨_,.inr ⟨_,rfl⟩,hk⟩
     exact hk.elim
    obtain⟨l,hl,h⟩:=hb _ _ _ h
    obtain⟨u,hh,⟨c1,c2,c3⟩,hK⟩:=hb _ _ _ h
    have hx:=(hnil t x).1
    rw[hxs] at hx
    have hv:=hx.str
    have hti:=(hT.of (t:=t) (by rw[hk];simp[TK.cls])).kind
    rw[hk] at hti
    have hrun:=Qj (P:=P) (w:=w) (t:=t) hti (s:=s) (lo:=lo.map ρ) (hi':=hi.map ρ) (l:=l.toNat) (h:=u.toNat)
     (hl.imp (fun q=>⟨bn _ q.1,by omega⟩) fun q=>by
      obtain⟨k,hk⟩:=bd _ _ q
      exact⟨k,by rw[hk];congr 2;omega⟩)
     (hh.imp (fun q=>⟨bn _ q.1,by omega⟩) fun q=>by
      obtain⟨k,hk⟩:=bd _ _ q
      exact⟨k,by rw[hk];congr 2;omega⟩) (by omega) (by omega)
    refine⟨_,_,hK,none,RunOK.value (u:=.string (s.extract l.toNat u.toNat)) (w':=w) ?_ (J1 m rfl)⟩
    unfold execOp;rw[heq]
    simp[hv,hrun]
   exact h.elim
  exact h.elim
 ·rename_i t x lo hi mx
  have br :∀(q:Option Operand),BR S w φ (fun r=>obl.getD r Option.none) (q.map av) (q.map ρ):=by
   intro q
   cases q with
   | none=>exact .inl ⟨rfl,rfl⟩
   | some y=>exact .inr ⟨_,_,rfl,rfl,(hav y).1⟩
  unfold Lt at h
  split at h
  ·rename_i e hk
   split at h
   ·rename_i r n hxo
    have hxa:=(hav x).1
    rw[hxo] at hxa
    split at h
    ·rename_i hiv hhi
     have bh:=br hi
     rw[hhi] at bh
     have hne:hi.map ρ≠Option.none:=by
      cases hi with
      | none=>simp at hhi
      | some y=>simp
     obtain⟨out,wr,u,h1,h2,h3,h4⟩:=MF (P:=P) hT m hk (br lo) bh (mx':=some (ρ mx)) (.inr ⟨_,_,rfl,rfl,(hav mx).1⟩) (fun _=>hne) hxa h
     refine⟨out,wr,h1,h2,RunOK.value (u:=u) (w':=w) ?_ h4⟩
     unfold execOp;rw[heq]
     simp[h3]
    exact h.elim
   exact h.elim
  exact h.elim
 ·rename_i t n c
  obtain⟨out,wr,u,w',h1,h2,h3,h4⟩:=U8 hT m (hav n).1 (hav c).1 h
  refine⟨out,wr,h1,h2,RunOK.value (u:=u) (w':=w') ?_ h4⟩
  unfold execOp;rw[heq]
  simp[h3]
 ·rename_i x i
  have hx:=(hav x).1
  have hc:=(hav x).2
  split at h
  ·rename_i vs har
   rw[har] at hx hc
   split at h
   ·rename_i a hg
    rw[CB] at h
    generalize hv:ρ x=vx at hx
    cases hx with | tup _ us f hs hf hr=>
    obtain⟨p1,p2⟩:=X16.1 hg
    refine⟨_,_,h,none,pureV (s:=Instr.extract (ρ x) i) (u:=f i) ?_ (p2 ▸ hr i p1) (fun r hr'=>hc r (by rw[<- p2] at hr';simpa[AV.refs] using AV.refs_mem vs i p1 r hr')) (by unfold execOp;rw[heq])⟩
    rw[hv]
    simp[Instr.extract,hf i p1]
   exact h.elim
  exact h.elim
 ·rename_i f first caps
  split at h
  ·rename_i hfirst
   have hf0:first=#[]:=Array.toList_eq_nil_iff.1 hfirst
   subst hf0
   refine⟨_,_,h,none,pureV (s:=Instr.makeFunc (.func f) #[] (caps.map ρ)) (u:=.func (.func f) #[] (caps.map ρ)) rfl ?_ (fun r hr'=>?_) (by unfold execOp;rw[heq];simp)⟩
   ·refine .fn f _ _ (fun i=>ρ (caps.toList.getD i (.const undef))) (by simp) (fun i hi=>?_) fun i hi=>?_
    ·have hi':i<caps.size:=by simpa using hi
     simp[hi']
    have hi':i<caps.size:=by simpa using hi
    simp only[List.getElem_map]
    have:caps.toList.getD i (.const undef)=caps.toList[i]'(by simpa using hi'):=by simp[hi']
    rw[this]
    exact (hav _).1
   obtain⟨c,hc1,hc2⟩:=AV.refs_mem' _ r (by simpa[AV.refs] using hr')
   obtain⟨x,_,rfl⟩:=List.mem_map.1 hc1
   exact (hav x).2 r hc2
  exact h.elim
 ·rename_i c
  obtain⟨callee,args,argTypes⟩:=c
  simp only at h
  split at h
  ·
   rename_i x
   obtain⟨f,caps,h,hf⟩:=Om h
   exact QQ (E:=E) hav heq hf (fun asz vals h1 h2=>UZ hC.2.1 m h1 h2) h
  ·
   split at h
   ·rename_i x t hargs htys
    have ha:args=#[x]:=by rw[<- Array.toArray_toList (xs:=args),hargs]
    have ht:argTypes=#[t]:=by rw[<- Array.toArray_toList (xs:=argTypes),htys]
    subst ha ht
    obtain⟨out,h1,h2⟩:=scalar (Vq (ty:=o.type) hT (hnil t x).1 h) (by unfold execOp;rw[heq];simp[resolve,invoke,builtin])
    exact⟨out,[],h1,none,h2⟩
   exact h.elim
  ·
   split at h
   ·rename_i x y t u hargs htys
    have ha:args=#[x,y]:=by rw[<- Array.toArray_toList (xs:=args),hargs]
    have ht:argTypes=#[t,u]:=by rw[<- Array.toArray_toList (xs:=argTypes),htys]
    subst ha ht
    split at h
    rotate_left
    ·obtain⟨out,wr,v,w',h1,h2,h3,h4⟩:=Tm (ty:=o.type) hT m (hnil _ x).1 (hav y).1 h
     refine⟨out,wr,h1,h2,RunOK.value (u:=v) (w':=w') ?_ h4⟩
     unfold execOp;rw[heq]
     simp[resolve,invoke,builtin,h3]
    rename_i htu
    have:=BW.1 htu
    subst this
    obtain⟨out,wr,v,w',h1,h2,h3,h4⟩:=Qr (ty:=o.type) hT m (hnil _ x).1 (hnil _ y).1 h
    refine⟨out,wr,h1,h2,RunOK.value (u:=v) (w':=w') ?_ h4⟩
    unfold execOp;rw[heq]
    simp[resolve,invoke,builtin,h3]
   exact h.elim
  ·
   split at h
   ·rename_i x t hargs htys
    have ha:args=#[x]:=by rw[<- Array.toArray_toList (xs:=args),hargs]
    have ht:argTypes=#[t]:=by rw[<- Array.toArray_toList (xs:=argTypes),htys]
    subst ha ht
    obtain⟨out,h1,h2⟩:=scalar (Vb (ty:=o.type) hT (hnil t x).1 h) (by unfold execOp;rw[heq];simp[resolve,invoke,builtin])
    exact⟨out,[],h1,none,h2⟩
   exact h.elim
  ·
   split at h
   ·rename_i x t hargs htys
    have ha:args=#[x]:=by rw[<- Array.toArray_toList (xs:=args),hargs]
    have ht:argTypes=#[t]:=by rw[<- Array.toArray_toList (xs:=argTypes),htys]
    subst ha ht
    split at h
    ·rename_i r a n mm hxo
     have hxa:=(hav x).1
     rw[hxo] at hxa
     obtain⟨out,wr,w',h1,h2,h3,h4⟩:=Sj (ty:=o.type) hT m hxa h
     refine⟨out,wr,h1,h2,RunOK.value (u:=.tuple #[]) (w':=w') ?_ h4⟩
     unfold execOp;rw[heq]
     simp[resolve,invoke,builtin,h3]
    exact h.elim
   exact h.elim
  ·
   split at h
   ·rename_i x y t u hargs htys
    have ha:args=#[x,y]:=by rw[<- Array.toArray_toList (xs:=args),hargs]
    have ht:argTypes=#[t,u]:=by rw[<- Array.toArray_toList (xs:=argTypes),htys]
    subst ha ht
    obtain⟨out,wr,v,w',h1,h2,h3,h4⟩:=UI (u:=u) (ty:=o.type) hT m (hav x).1 (hav y).1 h
    refine⟨out,wr,h1,h2,RunOK.value (u:=v) (w':=w') ?_ h4⟩
    unfold execOp;rw[heq]
    simp[resolve,invoke,builtin,h3]
   exact h.elim
  ·
   split at h
   ·rename_i x y hargs
    have ha:args=#[x,y]:=by rw[<- Array.toArray_toList (xs:=args),hargs]
    subst ha
    obtain⟨out,h1,h2⟩:=scalar (V4 (hav x).1 (hav y).1 h argTypes o.type) (by unfold execOp;rw[heq];simp[resolve,invoke,builtin])
    exact⟨out,[],h1,none,h2⟩
   exact h.elim
  ·
   split at h
   ·rename_i x y hargs
    have ha:args=#[x,y]:=by rw[<- Array.toArray_toList (xs:=args),hargs]
    subst ha
    obtain⟨out,h1,h2⟩:=scalar (Vm (hav x).1 (hav y).1 h argTypes o.type) (by unfold execOp;rw[heq];simp[resolve,invoke,builtin])
    exact⟨out,[],h1,none,h2⟩
   exact h.elim
  exact h.elim
 exact h.elim
theorem Qq {obl:List (Option OB)} (hT:TabOk P T) (m:Mem E w S φ (fun r=>obl.getD r none)) {st ty self r n:Nat} {cs:List AV} {y:AV} {vx vy:Value} {K:AV->W->Prop}
  (hx:RepA S w φ (fun r=>obl.getD r none) (.own r n) vx) (ho:obl.getD r none=some (.box cs)) (hy:RepA S w φ (fun r=>obl.getD r none) y vy) (h:TC T st self cs y obl K) :
  ∃out wr u w',K out wr/\(∀r o,(r,o) ∈ wr->r<obl.length)/\(Builtin.append_ #[st,st] ty #[vx,vy]).run P w=.ok u w'/\Post E w S φ (fun r=>obl.getD r none) out wr u w':=by
 unfold TC at h
 split at h
 ·rename_i e hk
  rw[B2,AH] at h
  simp only[X27] at h
  obtain⟨hself,⟨⟨⟨c1,c2⟩,c3⟩,c4⟩,h⟩:=h
  obtain⟨sz,ys,h,hsv⟩:=Iy m hy h
  rw[AH] at h
  simp only[X27] at h
  obtain⟨⟨c5,c6⟩,hb,h⟩:=h
  have hcl:=Wc c1
  have hsz:(T.get e).size=cs.length:=BW.1 c2
  have hpos:0<(T.get e).size:=X29 c3
  have hby:(T.get e).bytes<=65536:=X29 c4
  have hsz2:sz=(T.get e).size:=BW.1 c5
  subst hsz2
  have hys:ys≠[]:=by simpa using c6
  have hypos:0<ys.length:=List.length_pos_iff.2 hys
  obtain⟨hs1,hs2⟩:=CN hself
  have hte:=hT.of (t:=e) (by rw[hcl];simp)
  obtain⟨i,z,hi,hi1,hi2,hz,hz1,hz2,_⟩:=hte.info
  obtain⟨b,c,vs,e0,f,f1,f2,f3,f4,f5,f6⟩:=m.obj r _ ho
  cases hx with | own _ _ _ kk c0 a0 hv hkn h1 hbx=>
  obtain⟨rfl,b',c',a1,hv2⟩:=hbx cs ho
  rw[f1] at a1
  simp only[X24,X26] at a1
  obtain⟨rfl,rfl⟩:=a1
  rw[hv2]
  have hagg:RepA S w φ (fun r=>obl.getD r none) (.agg cs) (.agg vs):=.agg cs vs f f3 f5 (fun i hi=>(f6 i hi).1) fun i hi=>(f6 i hi).2
  obtain⟨d,wr,S1,hK,m1,k1,hd,hx1,hw1⟩:=Dj m (FrzExt.refl _) hagg h
  rw[AH] at hK
  obtain⟨hw,hK⟩:=hK
  obtain⟨hdc,hdr⟩:=hd.cells
  have hdl:d.cells.length=(T.get e).size:=by rw[<- hdc];simp only[Value.cells];omega
  rcases hsv.v with ⟨_,hy0⟩|⟨b2,o2,cap,g,rfl,hc,hr⟩
  ·exact absurd hy0 hys
  have hmul:(1 + ys.length) * i.bytes<=1000001 * 65536:=Nat.mul_le_mul (by omega) (by omega)
  have hmax:grownCap w (1 + ys.length) 1 e<=maxLen:=grownCap_le_maxLen w _ 1 e (by simp only[maxLen];omega)
  have hge:=grownCap_ge w (1 + ys.length) 1 e
  have hrun:=run_append_grow (P:=P) w st ty e i z (A2 hT hk) hi hz ⟨b,0,none⟩ 1 1 vs.toList (by simp;omega)
   (fun j v hj=>by
    rw[Addr.add_none,Nat.zero_add]
    have:cellAt w b j=some v:=by rw[BH f2];simpa using hj
    exact this) ⟨b2,o2,none⟩ ys.length cap (flat ys.length (T.get e).size g) (by rw[flat_length,hi1])
   (KC (g:=fun k=>w.cell? ((⟨b2,o2,none⟩:Addr).add k)) fun i j hi hj=>by rw[Addr.add_none];have:=hc i j hi hj;rw[Nat.add_assoc] at this;exact this)
   (by omega) (by omega) (growslice_fits (by omega) (by omega))
  obtain⟨md,kd⟩:=m1.drew
  generalize hcells:(vs.toList.toArray++(flat ys.length (T.get e).size g).toArray++Builtin.zeroCells z.cells (grownCap w (1 + ys.length) 1 e - (1 + ys.length)))=cells at hrun
  have hlen:cells.size=grownCap w (1 + ys.length) 1 e * (T.get e).size:=by
   rw[<- hcells]
   simp only[Array.size_append,List.size_toArray,size_zeroCells,hz1,flat_length,Array.length_toList,f3,<- hsz]
   rw[show (T.get e).size + ys.length * (T.get e).size=(1 + ys.length) * (T.get e).size by rw[X32,Nat.one_mul],<- X32]
   congr 1
   omega
  have hcell0 :∀j,j<(T.get e).size->cells[j]?=some (f j):=by
   intro j hj
   rw[<- hcells,Array.getElem?_append_left (by simp;omega),Array.getElem?_append_left (by simp;omega)]
   simpa using f5 j (by omega)
  have hcell1 :∀i j,i<ys.length->j<(T.get e).size->cells[(i + 1) * (T.get e).size + j]?=some (g i j):=by
   intro i j hi hj
   have:(i + 1) * (T.get e).size<=ys.length * (T.get e).size:=X31 _ hi
   rw[X32] at this ⊢
   rw[<- hcells,Array.getElem?_append_left (by simp[flat_length];omega),Array.getElem?_append_right (by simp;omega)]
   have e2:i * (T.get e).size + 1 * (T.get e).size + j - vs.toList.toArray.size=i * (T.get e).size + j:=by simp;omega
   rw[e2]
   simpa using flat_get g hi hj
  obtain⟨m2,k2⟩:=md.alloc self (grownCap w (1 + ys.length) 1 e,0) (.row e (T.get e).size (d::ys) .no) cells e (hx1.none hs1) (fun r hr=>by simp[OB.refs] at hr) (fun hk2=>by
   refine⟨hpos,fun i hi=>?_,fun i hi j hj=>?_,.inr ⟨w.heap.size,(grownCap w (1 + ys.length) 1 e,0),cells,fun i j=>match i with
    | 0=>f j
    | i + 1=>g i j,upd_same _ _ _,heap_alloc_new w.drew _,by simp;omega,hmax,Nat.le_of_eq ((Nat.zero_add _).trans hlen.symm),fun i j hi hj=>?_,fun i hi j hj=>?_,fun o _ ho=>absurd (m1.bS _ _ ho) (Nat.lt_irrefl _),fun _ _ _ _ h=>nomatch h⟩⟩
   ·cases i with
    | zero=>exact hdl
    | succ i=>exact hsv.hsz i (by simpa using hi)
   ·cases i with
    | zero=>
     obtain⟨u,_,q2,_⟩:=hdr j hj
     exact q2
    | succ i=>exact hsv.na i (by simpa using hi) j hj
   ·cases i with
    | zero=>simpa using hcell0 j hj
    | succ i=>simpa only[Nat.zero_add] using hcell1 i j (by simpa using hi) hj
   cases i with
   | zero=>
    obtain⟨u,q1,_,q3⟩:=hdr j hj
    have hj':j<cs.length:=by
     have:j<d.cells.length:=hj
     omega
    have hq:=f5 j hj'
    simp only[Value.cells] at q1
    rw[hq] at q1
    simp only[X24] at q1
    subst q1
    exact (q3.mono kd.k).mono hk2.k
   | succ i=>exact ((hr i (by simpa using hi) j hj).mono k1.k |>.mono kd.k).mono hk2.k)
  refine⟨_,_,_,_,hK,fun r' o' hm=>?_,hrun,S1,_,by rw[AS];exact m2,by rw[AS];exact (k1.trans kd).trans k2,?_,?_⟩
  ·rcases X23.1 hm with hm | hm
   ·obtain⟨e',sz',es',f',e1,_⟩:=hw1 r' o' hm
    exact Bh obl r' _ e1
   simp only[X14,X26] at hm
   rw[hm.1];exact hs2
  ·refine .own self _ _ (1 + ys.length) _ (some ⟨w.heap.size,0,none⟩) rfl (Nat.add_comm _ _) (fun e2 sz2 es2 f2 hx2=>?_) (fun cs hx2=>?_)
   ·rw[AS] at hx2
    simp only[Ai,upd_same,X24,OB.row.injEq] at hx2
    obtain⟨rfl,rfl,rfl,rfl⟩:=hx2
    exact⟨by simp,fun _=>.inr ⟨_,_,upd_same _ _ _,by rw[Nat.add_comm];rfl⟩⟩
   rw[AS] at hx2
   simp[Ai] at hx2
  intro r' hr'
  simp only[AV.refs,X14] at hr'
  subst hr'
  rw[AS]
  simp[Ai]
 exact h.elim
theorem run_equalIn_slice_nil (w:World) (d t e:Nat) (a0:Option Addr) (n c:Nat) (h:P.underlying t=some (.slice e)):(Op.equalIn (d + 1) t (.slice a0 n c) (.slice none 0 0)).run P w=.ok a0.isNone w:=by
 have hun:(underlying t).run P w=.ok (.slice e) w:=run_underlying h w
 unfold Op.equalIn
 rw[Sem.run_bind,hun,Result.andThen_ok]
 cases a0<;>rfl
theorem W4 (w:World) (ty e:Nat) (ox oy:Operand) (a0:Option Addr) (n c:Nat) (h:P.underlying ty=some (.slice e)) :
  ((do eqGuard .eql ty ox oy (.slice a0 n c) (.slice none 0 0);binOp .eql ty (.slice a0 n c) (.slice none 0 0):Sem Value)).run P w=.ok (.bool a0.isNone) w:=by
 have h1:(eqGuard .eql ty ox oy (.slice a0 n c) (.slice none 0 0)).run P w=.ok () w:=rfl
 have h2:binOp .eql ty (.slice a0 n c) (.slice none 0 0)=(do pure (Value.bool (← Op.equal ty (.slice a0 n c) (.slice none 0 0)))):=rfl
 have h3:=run_equalIn_slice_nil (P:=P) w 9999 ty e a0 n c h
 have h4:(Op.equal ty (.slice a0 n c) (.slice none 0 0)).run P w=.ok a0.isNone w:=h3
 rw[Sem.run_bind,h1,Result.andThen_ok,h2,Sem.run_bind,h4,Result.andThen_ok]
 rfl
theorem XK {obl:List (Option OB)} {cx:Cx} (hT:TabOk P cx.T) (hC:OU E.wl P cx) (m:Mem E w S φ (fun r=>obl.getD r none)) {o:Oper} {av:Operand->AV} {ρ:Operand->Value} {K:AV->W->Prop}
  (hav :∀x,RepA S w φ (fun r=>obl.getD r none) (av x) (ρ x)/\Closed (fun r=>obl.getD r none) (av x)) (h:opX cx o av obl K) :
  ∃out wr,K out wr/\(∀r o,(r,o) ∈ wr->r<obl.length)/\RunOK P o ρ w (Post E w S φ (fun r=>obl.getD r none) out wr):=by
 unfold opX at h
 split at h
 ·rename_i op ty x y yt heq
  split at h
  ·rename_i sz es hax hay
   split at h
   ·rename_i e hk
    have hx:=(hav x).1
    have hy:=(hav y).1
    rw[hax] at hx
    rw[hay] at hy
    have hvy:=hy.val
    obtain⟨a0,n,c,hvx,hn⟩ :∃a0 n c,ρ x=.slice a0 n c/\(a0=none->es.length=0):=by
     cases hx with | d _ _ hx=>
     generalize ρ x=vx at hx
     cases hx with
     | lst0 _ a cap=>exact⟨a,0,cap,rfl,fun _=>rfl⟩
     | lst _ _ b o cap=>exact⟨_,_,_,rfl,fun h=>by simp at h⟩
    have hu:P.underlying ty=some (.slice e):=by
     have:=(hT.of (t:=ty) (by rw[hk];simp[TK.cls])).kind
     rwa [hk] at this
    have hrun:(execOp ρ o).run P w=.ok (.value (.bool a0.isNone)) w:=by
     have h1:=W4 (P:=P) w ty e x y a0 n c hu
     have he:execOp ρ o=(do let v ← (do eqGuard .eql ty x y (ρ x) (ρ y);binOp .eql ty (ρ x) (ρ y):Sem Value);pure (.value v)):=by unfold execOp;rw[heq]
     rw[he,hvx,hvy,Sem.run_bind,h1,Result.andThen_ok]
     rfl
    have hout:K (.b a0.isNone) []:=by
     cases a0 with
     | none=>exact h.2 (hn rfl)
     | some a=>exact h.1
    exact⟨_,[],hout,fun _ _ hm=>by simp at hm,RunOK.value (u:=.bool a0.isNone) (w':=w) hrun ⟨S,φ,m,.refl _ _ _ _,.d _ _ (.val _ rfl),A6 _ _⟩⟩
   exact h.elim
  exact FP hT hC m hav h
 ·rename_i ty a x heq
  split at h
  ·rename_i r n i k r' n' har hax
   rcases h with h | h
   ·obtain⟨out,wr,w',h1,h2,h3,h4⟩:=Gu (P:=P) hT m har (hav a).1 (hax ▸ (hav x).1) h
    exact⟨out,wr,h1,h2,RunOK.skip (w':=w') (by unfold execOp;rw[heq];simp[h3]) h4⟩
   obtain⟨out,wr,w',h1,h2,h3,h4⟩:=IW (P:=P) hT m (har ▸ (hav a).1) (hax ▸ (hav x).1) (hax ▸ (hav x).2) h
   exact⟨out,wr,h1,h2,RunOK.skip (w':=w') (by unfold execOp;rw[heq];simp[h3]) h4⟩
  ·rename_i r n i k cs har hax
   obtain⟨out,wr,w',h1,h2,h3,h4⟩:=Gu (P:=P) hT m har (hav a).1 (hax ▸ (hav x).1) h
   exact⟨out,wr,h1,h2,RunOK.skip (w':=w') (by unfold execOp;rw[heq];simp[h3]) h4⟩
  exact FP hT hC m hav h
 ·rename_i c heq
  split at h
  ·rename_i hca
   split at h
   ·rename_i x y t u hargs htys
    split at h
    ·rename_i r n hx
     split at h
     ·rename_i cs ho
      obtain⟨callee,args,argTypes⟩:=c
      simp only at hca hargs htys
      subst hca
      have ha:args=#[x,y]:=by rw[<- Array.toArray_toList (xs:=args),hargs]
      have ht:argTypes=#[t,u]:=by rw[<- Array.toArray_toList (xs:=argTypes),htys]
      subst ha ht
      rw[AH] at h
      obtain⟨htu,h⟩:=h
      have:=BW.1 htu
      subst this
      obtain⟨out,wr,v,w',h1,h2,h3,h4⟩:=Qq (ty:=o.type) hT m (hx ▸ (hav x).1) ho (hav y).1 h
      refine⟨out,wr,h1,h2,RunOK.value (u:=v) (w':=w') ?_ h4⟩
      unfold execOp;rw[heq]
      simp[resolve,invoke,builtin,h3]
     exact FP hT hC m hav h
    exact FP hT hC m hav h
   exact FP hT hC m hav h
  ·rename_i x hca
   obtain⟨f,caps,h,hf⟩:=Om h
   obtain⟨callee,args,argTypes⟩:=c
   simp only at hca
   subst hca
   exact QQ (E:=E) hav heq hf (fun asz vals h1 h2=>UG hC.2.1 m h1 h2) h
  exact FP hT hC m hav h
 exact FP hT hC m hav h
end
end Go.AX
end
section
namespace Go.AX
def obf (obl:List (Option OB)):Nat->Option OB:=fun r=>obl.getD r none
structure R (E:Env) (st:ASt) (a:Act) (w:World) (S:Sc) (φ:Nat->Option (Nat×Rp)):Prop where
 sz:a.tmps.size=st.tm.length
 tm :∀i (hi:i<st.tm.length),RepA S w φ (obf st.ob) st.tm[i] (a.tmps.getD i undef)/\Closed (obf st.ob) st.tm[i]
 df:a.defers=[]
 mem:Mem E w S φ (obf st.ob)
structure Trk where
 np:Nat
 φ0:Nat->Option (Nat×Rp)
 ob0:Nat->Option OB
def Trk.ok (tr:Trk) (φ:Nat->Option (Nat×Rp)) (ob:Nat->Option OB):Prop:=∀r,r<tr.np->tr.ob0 r≠none->ob r≠none/\RefOK tr.φ0 tr.ob0 φ ob r
def RR (E:Env) (tr:Trk) (st:ASt) (a:Act) (w:World):Prop:=∃S φ,R E st a w S φ/\tr.ok φ (obf st.ob)
theorem Trk.ok.kept {tr:Trk} {w w':World} {S S':Sc} {φ φ':Nat->Option (Nat×Rp)} {ob ob':Nat->Option OB} (h:tr.ok φ ob) (k:Kept w S φ ob w' S' φ' ob'):tr.ok φ' ob':=
 fun r hr h0=>⟨k.c r (h r hr h0).1,(h r hr h0).2.trans (k.r r (h r hr h0).1)⟩
section
variable {P:Program} {E:Env} {tr:Trk} {w:World} {S:Sc} {φ:Nat->Option (Nat×Rp)}
theorem R.av {st:ASt} {a:Act} (h:R E st a w S φ) (x:Operand):RepA S w φ (obf st.ob) (evO st.tm x) (a.eval x)/\Closed (obf st.ob) (evO st.tm x):=by
 cases x with
 | tmp t=>
  simp only[evO,Act.eval]
  by_cases ht:t<st.tm.length
  ·have:=h.tm t ht
   have e:st.tm.getD t .dead=st.tm[t]:=by simp[ht]
   rw[e];exact this
  have e:st.tm.getD t .dead=.dead:=by simp[Nat.le_of_not_lt ht]
  rw[e];exact⟨.dead _,FT _⟩
 | const v=>
  simp only[evO,Act.eval]
  split
  ·rename_i hv;exact⟨.d _ _ (.val v hv),A6 _ _⟩
  exact⟨.dead _,FT _⟩
 | global g=>exact⟨.gl g,fun r hr=>by simp[evO,AV.refs] at hr⟩
 | func f=>exact⟨.fn f [] #[] (fun _=>undef) rfl (fun i hi=>by simp at hi) (fun i hi=>by simp at hi),fun r hr=>by simp[evO,AV.refs,AV.refs.refsL] at hr⟩
def wrL:List (Option OB)->W->List (Option OB)
 | ob,[]=>ob
 | ob,(r,o)::w=>wrL (ob.set r (some o)) w
theorem On (ob:List (Option OB)) (wr:W) (K:List (Option OB)->Prop):wrK ob wr K↔K (wrL ob wr):=by
 induction wr generalizing ob with
 | nil=>rfl
 | cons x wr ih=>obtain⟨r,o⟩:=x;simp[wrK,wrL,FM,ih]
theorem WN (ob:List (Option OB)) (wr:W) (h :∀r o,(r,o) ∈ wr->r<ob.length):obf (wrL ob wr)=Ai (obf ob) wr:=by
 induction wr generalizing ob with
 | nil=>rfl
 | cons x wr ih=>
  obtain⟨r,o⟩:=x
  simp only[wrL,Ai]
  rw[ih (ob.set r (some o)) fun r' o' hm=>by simpa using h r' o' (by simp[hm])]
  congr 1
  exact Zn ob r o (h r o (by simp))
def JI (tm:List AV) (dst:Option Nat) (v:AV):List AV:=match dst with
 | some d=>tm.set d v
 | none=>tm
theorem Gn (tm:List AV) (dst:Option Nat) (v:AV) (K:List AV->Prop):KX tm dst v K↔K (JI tm dst v):=by
 cases dst<;>simp[KX,JI,FM]
theorem Js (tm:List AV) (dst:Option Nat) (v:AV):(JI tm dst v).length=tm.length:=by
 cases dst<;>simp[JI]
theorem Yn (tm:List AV) (dst:Option Nat) (v:AV) (i:Nat) (hi:i<tm.length):(JI tm dst v)[i]?=some (if dst=some i then v else tm[i]):=by
 cases dst with
 | none=>simp[JI,hi]
 | some d=>
  simp only[JI,List.getElem?_set,X24]
  by_cases h:d=i
  ·simp[h,hi]
  simp[h,hi]
theorem ZW (a:Act) (dst:Option Nat) (v:Value) (i:Nat) (hi:i<a.tmps.size):(a.put dst v).tmps.getD i undef=if dst=some i then v else a.tmps.getD i undef:=by
 cases dst with
 | none=>simp[Act.put]
 | some d=>
  simp only[Act.put,X24]
  by_cases h:d=i
  ·subst h;simp[hi]
  simp[h,Array.getElem?_setIfInBounds_ne]
theorem R.put {st:ASt} {a:Act} (h:R E st a w S φ) {w':World} {S':Sc} {φ':Nat->Option (Nat×Rp)} {ob':List (Option OB)} {dst:Option Nat} {out:AV} {v:Value} (m:Mem E w' S' φ' (obf ob')) (k:Kept w S φ (obf st.ob) w' S' φ' (obf ob'))
  (hv:RepA S' w' φ' (obf ob') out v) (hc:Closed (obf ob') out):R E ⟨JI st.tm dst out,ob'⟩ (a.put dst v) w' S' φ':=by
 refine⟨?_,fun i hi=>?_,?_,m⟩
 ·rw[Js,<- h.sz];cases dst<;>simp[Act.put]
 ·simp only[Js] at hi
  have e1:=Yn st.tm dst out i hi
  have e2:=ZW a dst v i (by rw[h.sz];exact hi)
  have hi':i<(JI st.tm dst out).length:=by rw[Js];exact hi
  rw[X15 hi'] at e1
  have e1:=X25 e1
  simp only[e1,e2]
  split
  ·exact⟨hv,hc⟩
  exact⟨k.rep (h.tm i hi).2 (h.tm i hi).1,k.closed (h.tm i hi).2⟩
 rw[<- h.df];cases dst<;>rfl
theorem Jz {o:Oper} {a:Act} {Q:Value->World->Prop} {next:Act->World->Prop} {Qx:Exit->Act->World->Prop} (h:RunOK P o a.eval w Q) (hn :∀v w',Q v w'->next (a.put o.dst v) w'):o.wp P a w next Qx:=by
 unfold Oper.wp
 unfold RunOK at h
 generalize (execOp a.eval o).run P w=r at *
 cases r with
 | ok x w'=>
  cases x<;>simp only[Oper.upon] at h ⊢
  case value v=>exact hn _ _ h
  case skip=>exact hn _ _ h
  case enter f args=>
   refine h.mono ?_
   rintro e w'' ⟨v,rfl,hq⟩
   exact hn _ _ hq
  all_goals exact h.elim
 | halt x w'=>exact h.elim
theorem R.known {st:ASt} {a:Act} (h:R E st a w S φ) {t:Nat} {b c:Bool} (hb:st.tm.getD t .dead=.b b) (hc:b=c):R E ⟨st.tm.set t (.b c),st.ob⟩ a w S φ:=by
 subst hc
 have ht:t<st.tm.length:=by
  refine Nat.lt_of_not_le fun hge=>?_
  simp[hge] at hb
 have e:st.tm.set t (.b b)=st.tm:=by
  have:st.tm[t]=.b b:=by simpa[ht] using hb
  rw[<- this];exact List.set_getElem_self ht
 rw[e];exact h
theorem MY {ops:Array Oper} {o:Oper} {a:Act} {K:ASt->Prop} {Q:Exit->Act->World->Prop} {next:Act->World->Prop} {st:ASt} {Y:List AV->Prop}
  (yes :∀tm:List AV,RR E tr ⟨tm,st.ob⟩ a w->Y tm->o.wp P a w next Q)
  (h:I1 ops o st.tm Y (fun tm=>KX tm o.dst (.tup []) fun tm=>K ⟨tm,st.ob⟩)) (hR:RR E tr st a w) (hn :∀st' a' w',K st'->RR E tr st' a' w'->next a' w') :
  if Region.wanted o (yielded ops a.tmps) then o.wp P a w next Q else next (a.put o.dst undef) w:=by
 obtain⟨S,φ,hR,htr⟩:=hR
 obtain⟨tm,ob⟩:=st
 simp only at h yes
 have yes :∀{tm:List AV},R E ⟨tm,ob⟩ a w S φ->Y tm->o.wp P a w next Q:=fun hR h=>yes _ ⟨S,φ,hR,htr⟩ h
 have no :∀{tm:List AV},R E ⟨tm,ob⟩ a w S φ->KX tm o.dst (.tup []) (fun tm=>K ⟨tm,ob⟩)->next (a.put o.dst undef) w:=by
  intro tm hR h
  rw[Gn] at h
  exact hn _ _ _ h ⟨S,φ,hR.put hR.mem (.refl _ _ _ _) (.tup [] #[] (fun _=>undef) rfl (fun i hi=>by simp at hi) (fun i hi=>by simp at hi)) (fun r hr=>by simp[AV.refs,AV.refs.refsL] at hr),htr⟩
 unfold I1 at h
 cases hg:o.guard with
 | none=>
  simp only[hg] at h
  have hw:Region.wanted o (yielded ops a.tmps)=true:=by unfold Region.wanted;rw[hg]
  simp only[hw,if_true]
  exact yes hR h
 | some g=>
  obtain⟨j,want⟩:=g
  simp only[hg] at h
  cases hd:(ops[j]?).bind (·.dst) with
  | none=>simp[hd] at h
  | some t=>
   simp only[hd] at h
   split at h
   ·rename_i b hb
    have hb0:=hb
    have ht:t<tm.length:=by
     refine Nat.lt_of_not_le fun hge=>?_
     simp[hge] at hb
    have hrep:=(hR.tm t ht).1
    have e:tm.getD t .dead=tm[t]:=by simp[ht]
    rw[e] at hb
    simp only at hrep
    rw[hb] at hrep
    have hval:=hrep.bool
    have hts:t<a.tmps.size:=by rw[hR.sz];exact ht
    have hy:yielded ops a.tmps j=some b:=by
     unfold yielded
     rw[hd]
     have:a.tmps[t]?=some (.bool b):=by
      simp[hts] at hval ⊢
      exact hval
     simp[this]
    have hw:Region.wanted o (yielded ops a.tmps)=(b==want):=by
     unfold Region.wanted;rw[hg];simp only[hy];cases b<;>cases want<;>rfl
    simp only[hw]
    cases b<;>cases want<;>simp only[M5,FM] at h<;>simp
    ·exact yes (hR.known hb0 rfl) h
    ·exact no (hR.known hb0 rfl) h
    ·exact no (hR.known hb0 rfl) h
    exact yes (hR.known hb0 rfl) h
   ·rename_i vs hb
    have ht:t<tm.length:=by
     refine Nat.lt_of_not_le fun hge=>?_
     simp[hge] at hb
    have hrep:=(hR.tm t ht).1
    have e:tm.getD t .dead=tm[t]:=by simp[ht]
    rw[e] at hb
    simp only at hrep
    rw[hb] at hrep
    have hts:t<a.tmps.size:=by rw[hR.sz];exact ht
    have hy:yielded ops a.tmps j=none:=by
     unfold yielded
     rw[hd]
     generalize hv:a.tmps.getD t undef=v at hrep
     cases hrep with | tup _ us _ _ _ _=>
     have:a.tmps[t]?=some (.tuple us):=by
      simp[hts] at hv ⊢
      exact hv
     simp[this]
    have hw:Region.wanted o (yielded ops a.tmps)=false:=by
     unfold Region.wanted;rw[hg];simp only[hy];rfl
    simp only[hw]
    simpa using no hR h
   exact h.elim
theorem U4 {ops:Array Oper} {o:Oper} {F:(Operand->AV)->List (Option OB)->(AV->W->Prop)->Prop}
  (hF :∀{w:World} {S:Sc} {φ:Nat->Option (Nat×Rp)} {obl:List (Option OB)} {av:Operand->AV} {ρ:Operand->Value} {K:AV->W->Prop} (_:Mem E w S φ (fun r=>obl.getD r none)) (_ :∀x,RepA S w φ (fun r=>obl.getD r none) (av x) (ρ x)/\Closed (fun r=>obl.getD r none) (av x)) (_:F av obl K),
   ∃out wr,K out wr/\(∀r o,(r,o) ∈ wr->r<obl.length)/\RunOK P o ρ w (Post E w S φ (fun r=>obl.getD r none) out wr))
  {st:ASt} {a:Act} {K:ASt->Prop} {Q:Exit->Act->World->Prop}
  (h:stepG ops o F st K) (hR:RR E tr st a w) {next:Act->World->Prop} (hn :∀st' a' w',K st'->RR E tr st' a' w'->next a' w') :
  if Region.wanted o (yielded ops a.tmps) then o.wp P a w next Q else next (a.put o.dst undef) w:=by
 obtain⟨tm0,ob⟩:=st
 refine MY (Y:=fun tm=>F (evO tm) ob (fun v w=>KX tm o.dst v fun tm=>wrK ob w fun ob=>K ⟨tm,ob⟩)) (fun tm hR h=>?_) (st:=⟨tm0,ob⟩) h hR hn
 simp only at hR
 obtain⟨S,φ,hR,htr⟩:=hR
 obtain⟨out,wr,hK,hr,hrun⟩:=hF hR.mem (ρ:=a.eval) (fun x=>hR.av x) h
 rw[Gn,On] at hK
 refine Jz hrun fun v w' hp=>hn _ _ _ hK ?_
 obtain⟨S',φ',m',k',r',c'⟩:=hp
 have e:=WN ob wr hr
 exact⟨S',φ',hR.put (ob':=wrL ob wr) (by rw[e];exact m') (by rw[e];exact k') (by rw[e];exact r') (by rw[e];exact c'),by simp only[e];exact htr.kept k'⟩
theorem PZ {cx:Cx} (hT:TabOk P cx.T) (hC:OU E.wl P cx) {ops:Array Oper} {o:Oper} {st:ASt} {a:Act} {K:ASt->Prop} {Q:Exit->Act->World->Prop}
  (h:Ky cx ops o st K) (hR:RR E tr st a w) {next:Act->World->Prop} (hn :∀st' a' w',K st'->RR E tr st' a' w'->next a' w') :
  if Region.wanted o (yielded ops a.tmps) then o.wp P a w next Q else next (a.put o.dst undef) w:=
 U4 (F:=opK cx o) (fun m hav h=>FP hT hC m hav h) (show stepG ops o (opK cx o) st K from h) hR hn
theorem RV (ops:Array Oper):(List.range ops.size).map (fun i=>ops[i]?)=ops.toList.map some:=by
 apply List.ext_getElem
 ·simp
 intro i h1 h2
 simp at h1
 simp[h1]
theorem WT (s s':ASt) :∀{l l':List AV},tmW s s' l l'->l.length=l'.length/\∀i (hi:i<l.length) (hi':i<l'.length),AvW s s' l[i] l'[i]
 | [],[],_=>⟨rfl,fun i hi=>by simp at hi⟩
 | a::l,a'::l',h=>by
  have key:AvW s s' a a'/\tmW s s' l l':=by
   cases a'<;>simp only[tmW] at h<;>first | exact⟨.dead a,h⟩|exact h
  obtain⟨h1,h2⟩:=WT s s' key.2
  refine⟨by simp[h1],fun i hi hi'=>?_⟩
  cases i with
  | zero=>exact key.1
  | succ i=>exact h2 i (by simpa using hi) (by simpa using hi')
 | [],_::_,h=>by simp[tmW] at h
 | _::_,[],h=>by simp[tmW] at h
theorem QK (s s':ASt) :∀{l l':List AV},LO s s' l l'->l.length=l'.length/\∀i (hi:i<l.length) (hi':i<l'.length),l'[i].one=true/\AvW s s' l[i] l'[i]
 | [],[],_=>⟨rfl,fun i hi=>by simp at hi⟩
 | a::l,a'::l',h=>by
  simp only[LO] at h
  obtain⟨h1,h2⟩:=QK s s' h.2
  refine⟨by simp[h1],fun i hi hi'=>?_⟩
  cases i with
  | zero=>exact h.1
  | succ i=>exact h2 i (by simpa using hi) (by simpa using hi')
 | [],_::_,h=>by simp[LO] at h
 | _::_,[],h=>by simp[LO] at h
theorem WQ (s s':ASt) :∀{l l':List (Option OB)},obW s s' l l'->l.length=l'.length/\∀r o',l'.getD r none=some o'->
   match o' with
   | .box cs'=>∃cs,l.getD r none=some (.box cs)/\LO s s' cs cs'
   | .row e sz es frz=>(∃f,l.getD r none=some (.row e sz es f)/\fzW es f frz)\/(l.getD r none=none/\es=[]/\0<sz)
   | .map k e es=>l.getD r none=some (.map k e es) \/∃kv r' n,l.getD r none=some (.amap k e es kv r' n)
   | .amap k e es kv r' n=>(∃n',l.getD r none=some (.amap k e es kv r' n')/\n'=n)\/((l.getD r none=some (.map k e es) \/∃kv r' n,l.getD r none=some (.amap k e es kv r' n))/\(∃tk,BL tk (.val kv) es=some none)/\n=0/\s.ob.getD r' none=none/\∃e' sz f,s'.ob.getD r' none=some (.row e' sz [] f))
   | .gone=>l.getD r none=some .gone
 | [],[],_=>⟨rfl,fun r o' h=>by simp at h⟩
 | o::l,x::l',h=>by
  have tail:obW s s' l l':=by
   cases x with
   | none=>simpa[obW] using h
   | some q=>cases q<;>simp only[obW] at h<;>exact h.2
  obtain⟨h1,h2⟩:=WQ s s' tail
  refine⟨by simp[h1],fun r o' hr=>?_⟩
  cases r with
  | zero=>
   simp at hr
   subst hr
   cases o'<;>simp only[obW] at h
   all_goals simpa using h.1
  | succ r=>simpa using h2 r o' (by simpa using hr)
 | [],_::_,h=>by simp[obW] at h
 | _::_,[],h=>by simp[obW] at h
theorem sw_sw (i j r:Nat):sw i j (sw i j r)=r:=by
 unfold sw
 cases h1:Nat.beq r i with
 | true=>
  have:=X30 h1
  simp only
  cases h2:Nat.beq j i with
  | true=>have:=X30 h2;simp only;omega
  | false=>simp only[Nat.beq_refl];omega
 | false=>
  simp only
  cases h2:Nat.beq r j with
  | true=>
   have:=X30 h2
   simp only[Nat.beq_refl];omega
  | false=>simp only[h1,h2]
theorem bF {i j r r':Nat} (h:sw i j r=sw i j r'):r=r':=by rw[<- sw_sw i j r,h,sw_sw]
theorem cR {i j np r:Nat} (hi:np<=i) (hj:np<=j) (hr:r<np):sw i j r=r:=by
 unfold sw
 have h1:Nat.beq r i=false:=by
  cases h:Nat.beq r i with
  | true=>have:=X30 h;omega
  | false=>rfl
 have h2:Nat.beq r j=false:=by
  cases h:Nat.beq r j with
  | true=>have:=X30 h;omega
  | false=>rfl
 simp[h1,h2]
theorem DY (i j:Nat) :∀l:List AV,AV.sw.swL i j l=l.map (AV.sw i j)
 | []=>rfl
 | a::l=>by simp[AV.sw.swL,DY i j l]
theorem Yp (i j:Nat) (a:AV):(a.sw i j).one=a.one:=by cases a<;>rfl
theorem FZ.sw_sw (i j:Nat) (f:FZ):(f.sw i j).sw i j=f:=by cases f<;>simp[FZ.sw,Go.AX.sw_sw]
theorem RepA.sw {S:Sc} {w:World} {φ:Nat->Option (Nat×Rp)} {ob:Nat->Option OB} (i j:Nat) {a:AV} {v:Value} (h:RepA S w φ ob a v) :
  RepA S w (fun r=>φ (Go.AX.sw i j r)) (fun r=>(ob (Go.AX.sw i j r)).map (OB.sw i j)) (a.sw i j) v:=by
 have row :∀{r e sz:Nat} {es:List D} {frz:FZ},(ob (Go.AX.sw i j (Go.AX.sw i j r))).map (OB.sw i j)=some (.row e sz es frz)->ob r=some (.row e sz es (frz.sw i j)):=by
  intro r e sz es frz hx
  rw[Go.AX.sw_sw] at hx
  cases ho:ob r with
  | none=>rw[ho] at hx;simp at hx
  | some o=>
   rw[ho] at hx
   cases o<;>simp[OB.sw] at hx
   obtain⟨rfl,rfl,rfl,rfl⟩:=hx
   rw[FZ.sw_sw]
 have box :∀{r:Nat} {cs:List AV},(ob (Go.AX.sw i j (Go.AX.sw i j r))).map (OB.sw i j)=some (.box cs)->∃cs',ob r=some (.box cs'):=by
  intro r cs hx
  rw[sw_sw] at hx
  cases ho:ob r with
  | none=>rw[ho] at hx;simp at hx
  | some o=>
   rw[ho] at hx
   cases o<;>simp[OB.sw] at hx
   exact⟨_,rfl⟩
 induction h with
 | d x v h=>exact .d x v h
 | agg cs vs f hs hf hn _ ih=>
  refine .agg _ vs f (by simp[DY,hs]) (fun k hk=>hf k (by simpa[DY] using hk)) (fun k hk=>?_) fun k hk=>?_
  ·simp only[DY,List.getElem_map,Yp];exact hn _ _
  simp only[DY,List.getElem_map];exact ih _ _
 | tup cs vs f hs hf _ ih=>
  refine .tup _ vs f (by simp[DY,hs]) (fun k hk=>hf k (by simpa[DY] using hk)) fun k hk=>?_
  simp only[DY,List.getElem_map];exact ih _ _
 | fn f cs vs g hs hf _ ih=>
  refine .fn f _ vs g (by simp[DY,hs]) (fun k hk=>hf k (by simpa[DY] using hk)) fun k hk=>?_
  simp only[DY,List.getElem_map];exact ih _ _
 | ref r off b c h hb=>exact .ref _ off b c (by simpa[sw_sw] using h) fun e sz es frz hx=>hb e sz es _ (row hx)
 | eref cs b o f hS hn h=>exact .eref cs b o f hS hn h
 | own r n v k c a0 hv hk h hb=>
  refine .own _ n v k c a0 hv hk (fun e sz es frz hx=>?_) fun cs hx=>?_
  ·obtain⟨g1,g2⟩:=h e sz es _ (row hx)
   refine⟨g1,fun hn=>?_⟩
   have:=g2 hn
   unfold Hm at *
   simpa[sw_sw] using this
  obtain⟨cs',hx'⟩:=box hx
  simpa[sw_sw] using hb cs' hx'
 | rref r n a k v h hb hp=>
  refine .rref _ n a k v (fun e sz es frz hx=>?_) (fun cs hx=>?_) hp
  ·simpa[sw_sw] using h e sz es _ (row hx)
  obtain⟨cs',hx'⟩:=box hx
  simpa[sw_sw] using hb cs' hx'
 | mp r b c h hb hc=>
  refine .mp _ b c (by simpa[sw_sw] using h) (fun e sz es frz hx=>hb e sz es _ (row hx)) fun cs hx=>?_
  obtain⟨cs',hx'⟩:=box hx
  exact hc cs' hx'
 | it f r b c B h hb hc hS hm=>
  refine .it f _ b c B (by simpa[sw_sw] using h) (fun e sz es frz hx=>hb e sz es _ (row hx)) (fun cs hx=>?_) hS hm
  obtain⟨cs',hx'⟩:=box hx
  exact hc cs' hx'
 | osl r a n m v k c a0 hv hk h=>exact .osl _ a n m v k c a0 hv hk fun e sz es frz hx=>by simpa[sw_sw,Hm] using h e sz es _ (row hx)
 | gl g=>exact .gl g
 | gv g v hS hv=>exact .gv g v hS hv
 | dead v=>exact .dead v
theorem TY (i j:Nat) :∀(a:AV) (r:Nat),r ∈ (a.sw i j).refs->Go.AX.sw i j r ∈ a.refs
 | .d x,r,h=>by simp[AV.sw,AV.refs] at h
 | .eref _,r,h=>by simp[AV.sw,AV.refs] at h
 | .dead,r,h=>by simp[AV.sw,AV.refs] at h
 | .gl _,r,h=>by simp[AV.sw,AV.refs] at h
 | .gv _,r,h=>by simp[AV.sw,AV.refs] at h
 | .ref q _,r,h=>by simp only[AV.sw,AV.refs,X14] at h ⊢;rw[h,sw_sw]
 | .own q _,r,h=>by simp only[AV.sw,AV.refs,X14] at h ⊢;rw[h,sw_sw]
 | .mp q,r,h=>by simp only[AV.sw,AV.refs,X14] at h ⊢;rw[h,sw_sw]
 | .it _ q,r,h=>by simp only[AV.sw,AV.refs,X14] at h ⊢;rw[h,sw_sw]
 | .rref q _ _ _,r,h=>by simp only[AV.sw,AV.refs,X14] at h ⊢;rw[h,sw_sw]
 | .osl q _ _ _,r,h=>by simp only[AV.sw,AV.refs,X14] at h ⊢;rw[h,sw_sw]
 | .agg cs,r,h=>sw_refsL i j cs r (by simpa only[AV.sw,AV.refs] using h)
 | .fn _ cs,r,h=>sw_refsL i j cs r (by simpa only[AV.sw,AV.refs] using h)
 | .tup cs,r,h=>sw_refsL i j cs r (by simpa only[AV.sw,AV.refs] using h) where
 sw_refsL (i j:Nat) :∀(cs:List AV) (r:Nat),r ∈ AV.refs.refsL (AV.sw.swL i j cs)->Go.AX.sw i j r ∈ AV.refs.refsL cs
  | [],r,h=>by simp[AV.sw.swL,AV.refs.refsL] at h
  | a::l,r,h=>by
   simp only[AV.sw.swL,AV.refs.refsL,X23] at h ⊢
   exact h.imp (TY i j a r) (sw_refsL i j l r)
theorem ObjOK.sw {S:Sc} {w:World} {φ:Nat->Option (Nat×Rp)} {ob:Nat->Option OB} (i j:Nat) {r:Nat} {o:OB} (h:ObjOK S w φ ob (Go.AX.sw i j r) o) :
  ObjOK S w (fun r=>φ (Go.AX.sw i j r)) (fun r=>(ob (Go.AX.sw i j r)).map (OB.sw i j)) r (o.sw i j):=by
 cases o with
 | box cs=>
  obtain⟨b,c,vs,e,f,h1,h2,h3,h4,h5,h6⟩:=h
  refine⟨b,c,vs,e,f,h1,h2,by simp[DY,h3],h4,fun k hk=>h5 k (by simpa[DY] using hk),fun k hk=>?_⟩
  have hk':k<cs.length:=by simpa[DY] using hk
  simp only[DY,List.getElem_map,Yp]
  exact⟨(h6 k hk').1,(h6 k hk').2.sw i j⟩
 | row e sz es frz=>
  obtain⟨h0,h1,h2,h3⟩:=h
  refine⟨h0,h1,h2,h3.imp id ?_⟩
  rintro⟨b,cap,vs,f,f1,f2,f3,f4,f5,f6,f7,f8⟩
  refine⟨b,cap,vs,f,f1,f2,f3,f4,f5,f6,f7,fun o ho=>f8.1 o (by cases frz<;>exact ho),fun i' j' q n hq hi hj=>?_⟩
  cases frz with
  | no=>simp[FZ.sw] at hq
  | yes=>simp[FZ.sw] at hq
  | lk i2 j2 q2 n2=>
   simp only[FZ.sw,FZ.lk.injEq] at hq
   obtain⟨rfl,rfl,rfl,rfl⟩:=hq
   exact (f8.2 _ _ _ _ rfl hi hj).sw i j
 | map k e es=>exact h
 | amap k e es kv r' n=>
  obtain⟨b,c,arr,clock,h1,h2,h3,h4,h5,h6⟩:=h
  exact⟨b,c,arr,clock,h1,h2,h3,h4,h5,h6.imp fun v hv=>hv.sw i j⟩
 | gone=>trivial
theorem PU (i j:Nat) :∀l:List (Option OB),(L2 i j l).length=l.length
 | []=>rfl
 | none::l=>by simp[L2,PU i j l]
 | some o::l=>by simp[L2,PU i j l]
theorem IR (i j:Nat) :∀(l:List (Option OB)) (r:Nat),(L2 i j l).getD r none=(l.getD r none).map (OB.sw i j)
 | [],r=>by simp[L2]
 | none::l,0=>by simp[L2]
 | some o::l,0=>by simp[L2]
 | none::l,r + 1=>by simpa[L2] using IR i j l r
 | some o::l,r + 1=>by simpa[L2] using IR i j l r
theorem X1 {i j:Nat} {s:ASt} (hi:i<s.ob.length) (hj:j<s.ob.length) (r:Nat):obf (Ir i j s).ob r=(obf s.ob (sw i j r)).map (OB.sw i j):=by
 have hl:=PU i j s.ob
 simp only[obf,Ir]
 rw[List.getD_eq_getElem?_getD,List.getElem?_set]
 unfold sw
 by_cases h2:j=r
 ·subst h2
  rw[if_pos rfl,if_pos (by simpa[hl] using hj)]
  simp only[Option.getD_some]
  cases h1:Nat.beq j i with
  | true=>
   have:=X30 h1
   subst this
   rw[IR]
  | false=>simp only[Nat.beq_refl,IR]
 rw[if_neg h2,List.getElem?_set]
 have hb2:Nat.beq r j=false:=by
  cases h:Nat.beq r j with
  | true=>exact absurd (X30 h).symm h2
  | false=>rfl
 by_cases h1:i=r
 ·subst h1
  rw[if_pos rfl,if_pos (by simpa[hl] using hi)]
  simp only[Option.getD_some,Nat.beq_refl,IR]
 have hb1:Nat.beq r i=false:=by
  cases h:Nat.beq r i with
  | true=>exact absurd (X30 h).symm h1
  | false=>rfl
 rw[if_neg h1]
 simp only[hb1,hb2]
 rw[<- List.getD_eq_getElem?_getD,IR]
theorem Vo {i j:Nat} {s:ASt} (hi:tr.np<=i) (hj:tr.np<=j) (hli:i<s.ob.length) (hlj:j<s.ob.length) {a:Act} (hR:RR E tr s a w):RR E tr (Ir i j s) a w:=by
 obtain⟨S,φ,hR,htr⟩:=hR
 have hob:obf (Ir i j s).ob=fun r=>(obf s.ob (sw i j r)).map (OB.sw i j):=funext fun r=>X1 hli hlj r
 have m:=hR.mem
 have hne :∀{r:Nat},(obf s.ob (sw i j r)).map (OB.sw i j)≠none->obf s.ob (sw i j r)≠none:=fun h he=>h (by rw[he];rfl)
 refine⟨S,fun r=>φ (sw i j r),⟨by simp[Ir,DY,hR.sz],fun k hk=>?_,hR.df,?_⟩,fun r hr h0=>?_⟩
 ·have hk':k<s.tm.length:=by simpa[Ir,DY] using hk
  have e:(Ir i j s).tm[k]=(s.tm[k]).sw i j:=by simp[Ir,DY]
  rw[e,hob]
  obtain⟨h1,h2⟩:=hR.tm k hk'
  refine⟨h1.sw i j,fun r hr=>?_⟩
  have:=h2 _ (TY i j _ r hr)
  simp only
  cases ho:obf s.ob (sw i j r) with
  | none=>exact absurd ho this
  | some o=>simp
 ·rw[hob]
  refine⟨fun r o ho=>?_,fun r r' b c c' h1 h2 g1 g2=>?_,fun r o ho r' hm=>?_,m.sS,m.kS,m.bS,m.nS,m.fr,m.sz,fun r b c h g=>m.ow _ b c (hne h) g,m.os⟩
  ·cases hq:obf s.ob (sw i j r) with
   | none=>simp only[hq] at ho;simp at ho
   | some o0=>
    simp only[hq,Option.map_some,X24] at ho
    subst ho
    exact (m.obj _ _ hq).sw i j
  ·exact bF (m.inj _ _ b c c' (hne h1) (hne h2) g1 g2)
  cases hq:obf s.ob (sw i j r) with
  | none=>simp only[hq] at ho;simp at ho
  | some o0=>
   simp only[hq,Option.map_some,X24] at ho
   subst ho
   have:sw i j r' ∈ o0.refs:=by
    cases o0 with
    | box cs=>exact TY.sw_refsL i j cs r' (by simpa[OB.sw,OB.refs] using hm)
    | row e2 sz2 es2 f2=>
     cases f2 with
     | no=>simp[OB.sw,OB.refs,FZ.sw] at hm
     | yes=>simp[OB.sw,OB.refs,FZ.sw] at hm
     | lk=>
      simp only[OB.sw,OB.refs,FZ.sw,FZ.refs_lk,X14] at hm
      simp only[OB.refs,FZ.refs_lk,X14]
      rw[hm,Go.AX.sw_sw]
    | map=>simp[OB.sw,OB.refs] at hm
    | amap k e es kv r2 n=>
     simp only[OB.sw,OB.refs,X14] at hm
     simp only[OB.refs,X14]
     rw[hm,sw_sw]
    | gone=>simp[OB.sw,OB.refs] at hm
   have:=m.men _ _ hq _ this
   cases ho':obf s.ob (sw i j r') with
   | none=>exact absurd ho' this
   | some o=>simp
 obtain⟨h1,h2⟩:=htr r hr h0
 rw[hob]
 have e:=cR hi hj hr
 refine⟨by simp only[e];cases ho:obf s.ob r with
  | none=>exact absurd ho h1
  | some o=>simp,?_⟩
 have hh:hdr ((obf s.ob r).map (OB.sw i j))=hdr (obf s.ob r):=by
  cases obf s.ob r with
  | none=>rfl
  | some o=>cases o<;>rfl
 have hbx :∀cs,(obf s.ob r).map (OB.sw i j)=some (.box cs)->∃cs',obf s.ob r=some (.box cs'):=by
  intro cs hx
  cases ho:obf s.ob r with
  | none=>rw[ho] at hx;simp at hx
  | some o=>
   rw[ho] at hx
   cases o<;>simp[OB.sw] at hx
   exact⟨_,rfl⟩
 rcases h2 with ⟨a1,a2,a3⟩|⟨e',sz,es,frz,es',frz',a1,a2,a3,a4⟩|⟨a1,a2,a3⟩
 ·exact .inl ⟨by simp only[e];exact a1,by simp only[e];exact hh.trans a2,fun ⟨cs,hx⟩=>a3 (hbx cs (by simpa only[e] using hx))⟩
 ·exact .inr (.inl ⟨e',sz,es,frz,es',frz'.sw i j,a1,by simp only[e,a2];rfl,a3,fun hq=>by simp only[e];exact a4 hq⟩)
 refine .inr (.inr ⟨a1,by simp only[e];exact hh.trans a2,fun cs hx=>?_⟩)
 obtain⟨cs',hx'⟩:=hbx cs (by simpa only[e] using hx)
 exact a3 cs' hx'
theorem UB {s s':ASt} (h:Weak0 tr.np s s') {a:Act} (hR:RR E tr s a w):RR E tr s' a w:=by
 obtain⟨S,φ,hR,htr⟩:=hR
 obtain⟨hpar,htm,hob,hcl⟩:=h
 obtain⟨t1,t2⟩:=WT s s' htm
 obtain⟨o1,o2⟩:=WQ s s' hob
 have m:=hR.mem
 let S':Sc:=fun b o=>S b o\/(∃r e sz es f c,obf s.ob r=some (.row e sz es f)/\φ r=some (b,c)/\o<c.2 + es.length * sz/\(obf s'.ob r=none\/obf s'.ob r=some (.row e sz es .yes))) \/
  ∃r cs c,obf s.ob r=some (.box cs)/\φ r=some (b,c)/\o<cs.length/\obf s'.ob r=none
 let φ':Nat->Option (Nat×Rp):=fun r=>match obf s.ob r with
  | none=>none
  | some _=>φ r
 have hφ :∀{r},obf s.ob r≠none->φ' r=φ r:=by
  intro r hr
  simp only[φ']
  cases hq:obf s.ob r with
  | none=>exact absurd hq hr
  | some q=>rfl
 have hS:Ls S w S' w:=fun b o h=>⟨.inl h,rfl⟩
 have hS8 :∀{r b c},obf s.ob r≠none->obf s'.ob r≠none->φ r=some (b,c)->∀o,S' b o->S b o \/∃e sz es f,obf s.ob r=some (.row e sz es f)/\o<c.2 + es.length * sz/\(obf s'.ob r=none\/obf s'.ob r=some (.row e sz es .yes)):=by
  intro r b c h1 h1' h2 o ho
  rcases ho with ho | ⟨r',e,sz,es,f,c',g1,g2,g3,g4⟩|⟨r',cs,c',g1,g2,g3,g4⟩
  ·exact .inl ho
  ·have:=m.inj r' r b c' c (by rw[g1];simp) h1 g2 h2
   subst this
   rw[g2] at h2
   simp only[X24,X26,true_and] at h2
   subst h2
   exact .inr ⟨e,sz,es,f,g1,g3,g4⟩
  have:=m.inj r' r b c' c (by rw[g1];simp) h1 g2 h2
  subst this
  exact absurd g4 h1'
 have hclA :∀r ∈ AV.refs.refsL s'.tm,obf s'.ob r≠none:=by
  intro r hr
  simp only[ME,X27,List.all_eq_true] at hcl
  have:=hcl.1 r hr
  intro h
  simp only[obf] at h
  rw[h] at this
  simp at this
 have hclO :∀r o,obf s'.ob r=some o->∀r' ∈ o.refs,obf s'.ob r'≠none:=by
  intro r o ho r' hr'
  simp only[ME,X27,List.all_eq_true] at hcl
  have hmem:some o ∈ s'.ob:=by
   have hlt:=Bh s'.ob r o ho
   have:s'.ob[r]=some o:=by
    have h2:s'.ob.getD r none=s'.ob[r]:=by simp[hlt]
    rw[<- h2];exact ho
   rw[<- this]
   exact List.getElem_mem hlt
  have:=hcl.2 (some o) hmem
  simp only[List.all_eq_true] at this
  have:=this r' hr'
  intro h
  simp only[obf] at h
  rw[h] at this
  simp at this
 have href :∀r,obf s.ob r≠none->obf s'.ob r≠none->RefOK φ (obf s.ob) φ' (obf s'.ob) r:=by
  intro r h1 h2
  refine .inl ⟨hφ h1,?_,?_⟩
  ·cases hq:obf s'.ob r with
   | none=>exact absurd hq h2
   | some q=>
    have:=o2 r q hq
    cases q with
    | box cs'=>
     obtain⟨cs,g1,_⟩:=this
     have g1':obf s.ob r=some (.box cs):=g1
     rw[g1'];rfl
    | map k e es=>
     rcases this with g1 | ⟨kv,r2,n2,g1⟩
     ·have g1':obf s.ob r=some (.map k e es):=g1
      rw[g1']
     have g1':obf s.ob r=some (.amap k e es kv r2 n2):=g1
     rw[g1'];rfl
    | amap k e es kv r2 n2=>
     rcases this with ⟨n3,g1,_⟩|⟨g1 | ⟨_,_,_,g1⟩,_⟩
     ·have g1':obf s.ob r=some (.amap k e es kv r2 n3):=g1
      rw[g1'];rfl
     ·have g1':obf s.ob r=some (.map k e es):=g1
      rw[g1'];rfl
     have g1':obf s.ob r=some (.amap k e es _ _ _):=g1
     rw[g1'];rfl
    | gone=>
     have g1':obf s.ob r=some .gone:=this
     rw[g1']
    | row e sz es frz=>
     rcases this with ⟨f,g1,_⟩|⟨g1,_⟩
     ·have g1':obf s.ob r=some (.row e sz es f):=g1
      rw[g1'];rfl
     exact absurd g1 h1
  rintro⟨cs',hc⟩
  obtain⟨cs,g1,_⟩:=o2 r _ hc
  exact⟨cs,g1⟩
 have fr :∀{r e sz:Nat} {f:FZ},s.ob.getD r none=none->s'.ob.getD r none=some (.row e sz [] f)->RepA S' w φ' (obf s'.ob) (.own r 0) (.slice none 0 0):=by
  intro r e sz f h h'
  have h'':obf s'.ob r=some (.row e sz [] f):=h'
  refine .own r 0 _ 0 0 none rfl rfl (fun e' sz' es' f' hx=>?_) fun cs hx=>?_
  ·rw[h''] at hx
   simp only[X24,OB.row.injEq] at hx
   obtain⟨rfl,rfl,rfl,rfl⟩:=hx
   refine⟨Nat.le_refl _,fun _=>.inl ⟨?_,rfl,_,rfl⟩⟩
   have h0:obf s.ob r=none:=h
   simp only[φ',h0]
  rw[h''] at hx
  simp at hx
 have rep :∀{x x':AV} {v:Value},AvW s s' x x'->RepA S w φ (obf s.ob) x v->Closed (obf s.ob) x->(∀r ∈ x'.refs,obf s'.ob r≠none)->RepA S' w φ' (obf s'.ob) x' v:=by
  intro x x' v hw
  induction hw generalizing v with
  | lstB r cs ys sz h h' hsz hl hp hcw hn ih=>
   intro hv hc hc'
   cases hv with | own _ _ _ k c a0 hv hk h1 hb=>
   have hq:obf s.ob r=some (.box cs):=h
   obtain⟨_,b,c',f1,rfl⟩:=hb cs hq
   obtain⟨b',c2,vs,e,f,q1,q2,q3,q4,q5,q6⟩:=m.obj r _ hq
   rw[q1] at f1
   simp only[X24,X26] at f1
   obtain⟨rfl,rfl⟩:=f1
   subst hsz
   refine .d _ _ (.lst cs.length [.agg ys] b' 0 1 (fun _ j=>f j) (by simp[maxLen]) (Nat.le_refl _) (fun i hi=>?_) (fun i j hi hj=>⟨.inr (.inr ⟨r,cs,c2,hq,q1,?_,h'⟩),?_⟩) (fun i hi j hj=>?_) fun i hi j hj=>?_)
   ·have:i=0:=by simpa using hi
    subst this
    simpa[D.cells] using hl
   ·have:i=0:=by simpa using hi
    subst this
    omega
   ·have:i=0:=by simpa using hi
    subst this
    rw[BH q2]
    simpa using q5 j hj
   ·have:i=0:=by simpa using hi
    subst this
    exact hn j (by simpa[D.cells] using hj)
   have:i=0:=by simpa using hi
   subst this
   have hj':j<ys.length:=by simpa[D.cells] using hj
   have:=ih j (by omega) hj' (q6 j (by omega)).2 (fun r' hr'=>m.men r _ hq r' (by simpa[OB.refs] using AV.refs_mem cs j (by omega) r' hr')) (fun r' hr'=>by simp[AV.refs] at hr')
   cases this with | d _ _ this=>exact this
  | refl=>intro hv hc hc';exact hv.mono hS fun r hr=>href r (hc r hr) (hc' r hr)
  | dead=>intro hv hc hc';exact .dead _
  | ownL r n n' hn=>intro hv hc hc';subst hn;exact hv.mono hS fun r hr=>href r (hc r hr) (hc' r hr)
  | osl r a n m m' hm=>intro hv hc hc';subst hm;exact hv.mono hS fun r hr=>href r (hc r hr) (hc' r hr)
  | norm x=>intro hv hc hc';cases hv with | d _ _ hv=>exact .d _ _ (hv.norm.mono hS)
  | lst r n e sz es f h hn h'=>
   intro hv hc hc'
   cases hv with | own _ _ _ k c a0 hv hk h1 hb=>
   have hq:obf s.ob r=some (.row e sz es f):=h
   obtain⟨g0,g1,g2,g3⟩:=m.obj r _ hq
   rcases (h1 e sz es f hq).2 hn with ⟨a1,a2,_,rfl⟩|⟨b,cap,a1,rfl⟩
   ·have:es=[]:=List.eq_nil_of_length_eq_zero (by omega)
    subst this
    exact .d _ _ (.lst0 sz _ _)
   rcases g3 with ⟨b1,_⟩|⟨b',cap',vs,g,f1,f2,f3,f4,f5,f6,f7,f8⟩
   ·rw[b1] at a1;simp at a1
   rw[f1] at a1
   simp only[X24,X26] at a1
   obtain⟨rfl,rfl⟩:=a1
   rw[hn]
   refine .d _ _ (.lst sz es b' cap'.2 cap'.1 g (Nat.le_trans f3 f4) f3 g1 (fun i j hi hj=>⟨.inr (.inl ⟨r,e,sz,es,f,cap',hq,f1,?_,h'⟩),?_⟩) g2 fun i hi j hj=>(f7 i hi j hj).mono hS)
   ·have:(i + 1) * sz<=es.length * sz:=X31 _ hi
    rw[X32] at this
    omega
   rw[BH f2,Nat.add_assoc]
   exact f6 i j hi hj
  | oslD r a n m0 e sz es zs f h hm hz h'=>
   intro hv hc hc'
   cases hv with | osl _ _ _ _ _ k c a0 hv hk h1=>
   have hq:obf s.ob r=some (.row e sz es f):=h
   obtain⟨g0,g1,g2,g3⟩:=m.obj r _ hq
   obtain⟨a1,a2,_⟩:=(h1 e sz es f hq).2 hm
   rcases a2 with a2 | ⟨b,cap,c',a2,a3,a4⟩
   ·have:zs=[]:=by rw[<- hz,a2];simp
    subst this
    rw[hv,hk,a2]
    exact .d _ _ (.lst0 sz _ _)
   rcases g3 with ⟨b1,_⟩|⟨b',cap',vs,g,f1,f2,f3,f4,f5,f6,f7,f8⟩
   ·rw[b1] at a2;simp at a2
   rw[f1] at a2
   simp only[X24,X26] at a2
   obtain⟨rfl,rfl⟩:=a2
   have hlen:zs.length=n:=by rw[<- hz];simp;omega
   have hget :∀i (hi:i<zs.length),zs[i]=es[a + i]'(by omega):=by
    intro i hi;subst hz;simp
   rw[a3]
   have key:=RepD.lst (S:=S') (w:=w) sz zs b' (cap'.2 + a * sz) c' (fun i j=>g (a + i) j) (by omega) (by omega) (fun i hi=>by rw[hget i hi];exact g1 _ _) (fun i j hi hj=>⟨.inr (.inl ⟨r,e,sz,es,f,cap',hq,f1,?_,h'⟩),?_⟩) (fun i hi j hj=>?_) fun i hi j hj=>?_
   ·rw[hlen] at key
    exact .d _ _ key
   ·have:(a + i + 1) * sz<=es.length * sz:=X31 _ (by omega)
    rw[X32,X32] at this
    omega
   ·rw[BH f2]
    have e2:cap'.2 + a * sz + i * sz + j=cap'.2 + ((a + i) * sz + j):=by rw[X32];omega
    rw[e2]
    exact f6 (a + i) j (by omega) hj
   ·have:=hget i hi
    simp only[this] at hj ⊢
    exact g2 (a + i) (by omega) j hj
   have:=hget i hi
   simp only[this] at hj ⊢
   exact (f7 (a + i) (by omega) j hj).mono hS
  | fresh r e sz h h'=>
   intro hv hc hc'
   cases hv with | d _ _ hv=>
   cases hv with | nil=>exact fr h h'
  | tup cs cs' hl hcw ih=>
   intro hv hc hc'
   cases hv with | tup _ vs f hs hf hr=>
   exact .tup cs' vs f (by omega) (fun i hi=>hf i (by omega)) fun i hi=>ih i (by omega) hi (hr i (by omega)) (fun r hr'=>hc r (by simpa[AV.refs] using AV.refs_mem cs i (by omega) r hr')) fun r hr'=>hc' r (by simpa[AV.refs] using AV.refs_mem cs' i hi r hr')
  | agg cs cs' hl hcw hn ih=>
   intro hv hc hc'
   cases hv with | agg _ vs f hs hf _ hr=>
   exact .agg cs' vs f (by omega) (fun i hi=>hf i (by omega)) hn fun i hi=>ih i (by omega) hi (hr i (by omega)) (fun r hr'=>hc r (by simpa[AV.refs] using AV.refs_mem cs i (by omega) r hr')) fun r hr'=>hc' r (by simpa[AV.refs] using AV.refs_mem cs' i hi r hr')
  | aggD cs ys hl hcw hn ih=>
   intro hv hc hc'
   cases hv with | agg _ vs f hs hf _ hr=>
   refine .d _ _ (.agg ys vs f (by omega) (fun i hi=>hf i (by omega)) hn fun i hi=>?_)
   have:=ih i (by omega) hi (hr i (by omega)) (fun r hr'=>hc r (by simpa[AV.refs] using AV.refs_mem cs i (by omega) r hr')) (fun r hr'=>by simp[AV.refs] at hr')
   cases this with | d _ _ this=>exact this
  | dagg ds cs' hl hcw hn ih=>
   intro hv hc hc'
   cases hv with | d _ _ hv=>
   cases hv with | agg _ vs f hs hf _ hr=>
   exact .agg cs' vs f (by omega) (fun i hi=>hf i (by omega)) hn fun i hi=>ih i (by omega) hi (.d _ _ (hr i (by omega))) (fun r hr'=>by simp[AV.refs] at hr') fun r hr'=>hc' r (by simpa[AV.refs] using AV.refs_mem cs' i hi r hr')
 refine⟨S',φ',⟨by rw[hR.sz,t1],fun i hi=>?_,hR.df,⟨?_,?_,hclO,fun b o h=>.inl (m.sS b o h),m.kS,?_,?_,m.fr,m.sz,?_,m.os⟩⟩,fun r hr h0=>?_⟩
 ·have hi':i<s.tm.length:=by omega
  refine⟨rep (t2 i hi' hi) (hR.tm i hi').1 (hR.tm i hi').2 fun r hr=>hclA r (AV.refs_mem s'.tm i hi r hr),fun r hr=>hclA r (AV.refs_mem s'.tm i hi r hr)⟩
 ·intro r o' ho'
  have hw:=o2 r o' ho'
  cases o' with
  | gone=>trivial
  | box cs'=>
   obtain⟨cs,g1,g2⟩:=hw
   have g1':obf s.ob r=some (.box cs):=g1
   obtain⟨c1,c2⟩:=QK s s' g2
   obtain⟨b,c,vs,e,f,h1,h2,h3,h4,h5,h6⟩:=m.obj r _ g1'
   refine⟨b,c,vs,e,f,(hφ (by rw[g1'];simp)).trans h1,h2,by omega,fun o ho=>?_,fun j hj=>h5 j (by omega),fun j hj=>⟨(c2 j (by omega) hj).1,?_⟩⟩
   ·rcases hS8 (r:=r) (by rw[g1'];simp) (by rw[ho'];simp) h1 o ho with h | ⟨e',sz',es',f',q,_⟩
    ·exact h4 o h
    rw[g1'] at q;simp at q
   exact rep (c2 j (by omega) hj).2 (h6 j (by omega)).2 (fun r' hr'=>m.men r _ g1' r' (by simpa[OB.refs] using AV.refs_mem cs j (by omega) r' hr')) fun r' hr'=>hclO r _ ho' r' (by simpa[OB.refs] using AV.refs_mem cs' j hj r' hr')
  | map k e es=>
   obtain⟨o0,g1',hd0,b,c,arr,clock,h1,h2,h3,h4,h5⟩ :∃o0,obf s.ob r=some o0/\hdr (some o0)=none/\∃b c arr clock,φ r=some (b,c)/\w.heap[b]?=some (.map arr clock)/\(arr.size=es.length/\BornOK arr clock)/\(∀o,¬ S b o)/\
     ∀i (hi:i<es.length),∃x:MapEntry,arr[i]?=some x/\(∃u,es[i].1=.val u/\x.key=u/\u.oneCell'=true)/\RepD S w es[i].2 x.val:=by
    rcases hw with g1 | ⟨kv,r2,n2,g1⟩
    ·exact⟨_,g1,rfl,m.obj r _ g1⟩
    obtain⟨b,c,arr,clock,h1,h2,h3,h4,h5,_⟩:=m.obj r _ g1
    exact⟨_,g1,rfl,b,c,arr,clock,h1,h2,h3,h4,h5⟩
   refine⟨b,c,arr,clock,(hφ (by rw[g1'];simp)).trans h1,h2,h3,fun o ho=>?_,fun i hi=>?_⟩
   ·rcases hS8 (r:=r) (by rw[g1'];simp) (by rw[ho'];simp) h1 o ho with h | ⟨e',sz',es',f',q,_⟩
    ·exact h4 o h
    rw[g1'] at q
    obtain rfl:=X25 q
    simp[hdr] at hd0
   obtain⟨x,q1,q2,q3⟩:=h5 i hi
   exact⟨x,q1,q2,q3.mono hS⟩
  | amap k e es kv r2 n2=>
   obtain⟨o0,g1',hd0,b,c,arr,clock,h1,h2,h3,h4,h5,h6⟩ :∃o0,obf s.ob r=some o0/\hdr (some o0)=none/\∃b c arr clock,φ r=some (b,c)/\w.heap[b]?=some (.map arr clock)/\(arr.size=es.length/\BornOK arr clock)/\(∀o,¬ S b o)/\
     (∀i (hi:i<es.length),∃x:MapEntry,arr[i]?=some x/\(∃u,es[i].1=.val u/\x.key=u/\u.oneCell'=true)/\RepD S w es[i].2 x.val)/\AliasP kv (RepA S' w φ' (obf s'.ob) (.own r2 n2)) arr.toList:=by
    rcases hw with ⟨n3,g1,rfl⟩|⟨g1 | ⟨kv0,r0,n0,g1⟩,⟨tk,g2⟩,rfl,g3,e',sz,f,g4⟩
    ·obtain⟨b,c,arr,clock,h1,h2,h3,h4,h5,h6⟩:=m.obj r _ g1
     refine⟨_,g1,rfl,b,c,arr,clock,h1,h2,h3,h4,h5,h6.imp fun v hv=>hv.mono hS fun q hq=>?_⟩
     simp only[AV.refs,X14] at hq
     subst hq
     exact href q (m.men r _ g1 q (by simp[OB.refs])) (hclO r _ ho' q (by simp[OB.refs]))
    ·obtain⟨b,c,arr,clock,h1,h2,h3,h4,h5⟩:=m.obj r _ g1
     exact⟨_,g1,rfl,b,c,arr,clock,h1,h2,h3,h4,h5,Is (I3 _ _) es arr.toList ⟨by simpa using h3.1,fun i hi=>by simpa using h5 i hi⟩ g2 (fr g3 g4)⟩
    obtain⟨b,c,arr,clock,h1,h2,h3,h4,h5,_⟩:=m.obj r _ g1
    exact⟨_,g1,rfl,b,c,arr,clock,h1,h2,h3,h4,h5,Is (I3 _ _) es arr.toList ⟨by simpa using h3.1,fun i hi=>by simpa using h5 i hi⟩ g2 (fr g3 g4)⟩
   refine⟨b,c,arr,clock,(hφ (by rw[g1'];simp)).trans h1,h2,h3,fun o ho=>?_,fun i hi=>?_,h6⟩
   ·rcases hS8 (r:=r) (by rw[g1'];simp) (by rw[ho'];simp) h1 o ho with h | ⟨e',sz',es',f',q,_⟩
    ·exact h4 o h
    rw[g1'] at q
    obtain rfl:=X25 q
    simp[hdr] at hd0
   obtain⟨x,q1,q2,q3⟩:=h5 i hi
   exact⟨x,q1,q2,q3.mono hS⟩
  | row e sz es frz=>
   rcases hw with ⟨f,g1,g2⟩|⟨g1,rfl,g2⟩
   ·have g1':obf s.ob r=some (.row e sz es f):=g1
    obtain⟨h0,h1,h2,h3⟩:=m.obj r _ g1'
    refine⟨h0,h1,h2,h3.imp (fun q=>⟨(hφ (by rw[g1'];simp)).trans q.1,q.2⟩) ?_⟩
    rintro⟨b,cap,vs,g,f1,f2,f3,f4,f5,f6,f7,f8⟩
    refine⟨b,cap,vs,g,(hφ (by rw[g1'];simp)).trans f1,f2,f3,f4,f5,f6,fun i hi j hj=>(f7 i hi j hj).mono hS,fun o ho hs=>?_,fun i j q n hq hi hj=>?_⟩
    rotate_left
    ·have h5:=g2.2
     rw[hq] at h5
     rcases h5 with h5 | ⟨i',n',h5,rfl,rfl⟩
     ·omega
     refine (f8.2 i' j q n' h5 hi hj).mono hS fun r' hr'=>?_
     simp only[AV.refs,X14] at hr'
     subst hr'
     exact href r' (m.men r _ g1' r' (by simp[OB.refs,h5])) (hclO r _ ho' r' (by simp[OB.refs,hq]))
    rcases hS8 (r:=r) (by rw[g1'];simp) (by rw[ho'];simp) f1 o hs with h | ⟨e',sz',es',f',q,q2,q3⟩
    ·refine f8.1 o ?_ h
     cases f with
     | no=>simp
     | lk=>simp
     | yes=>rw[g2.1 rfl] at ho;exact ho
    rw[g1'] at q
    simp only[X24,OB.row.injEq] at q
    obtain⟨rfl,rfl,rfl,rfl⟩:=q
    rcases q3 with q3 | q3
    ·rw[ho'] at q3;simp at q3
    rw[ho'] at q3
    simp only[X24,OB.row.injEq] at q3
    rw[q3.2.2.2] at ho
    simp only[FZ.frozen_yes,if_true] at ho
    omega
   refine⟨g2,fun i hi=>by simp at hi,fun i hi=>by simp at hi,.inl ⟨?_,rfl⟩⟩
   have g1':obf s.ob r=none:=g1
   simp only[φ',g1']
 ·intro r1 r2 b c c' h1 h2 g1 g2
  have q :∀{r:Nat} {x:Nat×Rp},φ' r=some x->obf s.ob r≠none/\φ r=some x:=by
   intro r x h
   simp only[φ'] at h
   cases hq:obf s.ob r with
   | none=>simp[hq] at h
   | some q=>simp only[hq] at h;exact⟨by simp,h⟩
  obtain⟨a1,a2⟩:=q g1
  obtain⟨b1,b2⟩:=q g2
  exact m.inj r1 r2 b c c' a1 b1 a2 b2
 ·intro b o h
  rcases h with h | ⟨r,e,sz,es,f,c,g1,g2,_⟩|⟨r,cs,c,g1,g2,_⟩
  ·exact m.bS b o h
  ·exact (m.ow r b c (by rw[g1];simp) g2).1
  exact (m.ow r b c (by rw[g1];simp) g2).1
 ·intro b o h h1 h2
  rcases h with h | ⟨r,e,sz,es,f,c,g1,g2,_⟩|⟨r,cs,c,g1,g2,_⟩
  ·exact m.nS b o h h1 h2
  ·rcases (m.ow r b c (by rw[g1];simp) g2).2 with g | g
   ·omega
   exact absurd g h2
  rcases (m.ow r b c (by rw[g1];simp) g2).2 with g | g
  ·omega
  exact absurd g h2
 ·intro r b c h g
  simp only[φ'] at g
  cases hq:obf s.ob r with
  | none=>simp[hq] at g
  | some q=>
   simp only[hq] at g
   exact m.ow r b c (by rw[hq];simp) g
 have h1:obf s'.ob r≠none:=by
  simp only[List.all_eq_true,List.mem_range] at hpar
  have:=hpar r hr
  intro h
  simp only[obf] at h
  rw[h] at this
  have hq:=(htr r hr h0).1
  simp only[obf] at hq
  cases hz:s.ob.getD r none with
  | none=>exact hq hz
  | some z=>
   rw[hz] at this
   simp at this
 exact⟨h1,(htr r hr h0).2.trans (href r (htr r hr h0).1 h1)⟩
theorem LW {np:Nat} {s s':ASt} (h:Weak np s s') (hnp:np=tr.np) {a:Act} (hR:RR E tr s a w):RR E tr s' a w:=by
 induction h with
 | mk h1 h2 h3 h4=>exact UB ⟨hnp ▸ h1,h2,h3,h4⟩ hR
 | swap i j hi hj hl _ ih=>
  simp only[X27] at hl
  exact ih (Vo (hnp ▸ X29 hi) (hnp ▸ X29 hj) (X29 hl.1) (X29 hl.2) hR)
def AE.exit':AE->Exit
 | .normal=>.normal
 | .exit id=>.exit id
 | .ret=>.ret
def Sz (wl:WL) (P:Program) (cx:Cx):Prop:=∀(E:Env),E.wl=wl->∀(tr:Trk) (id:Nat) (ops:Array Oper) (st:ASt) (a:Act) (w:World) (K:ASt->Prop) (Q:Exit->Act->World->Prop),tr.np=cx.np->
 (YZ cx ops st K\/Vj cx ops st K)->RR E tr st a w->(∀st' a' w',K st'->RR E tr st' a' w'->Q .normal a' w')->(Code.region id ops true).wp P Q a w
theorem Hh {np:Nat} (hnp:tr.np=np) {X:(ASt->Prop)->Prop} {K:ASt->Prop} {c:Prop} (h:CutP np X K)
  (hX :∀K':ASt->Prop,X K'->(∀(st':ASt) (a':Act) (w':World),K' st'->RR E tr st' a' w'->∃st,K st/\RR E tr st a' w')->c):c:=by
 rcases h with h | ⟨J,h1,h2⟩
 ·exact hX K h fun st a' w' hK hR=>⟨st,hK,hR⟩
 refine hX _ h1 fun st a' w' ⟨s,hw,hJ⟩ hR=>⟨s,h2 s hJ,?_⟩
 rw[<- hnp] at hw
 exact LW hw rfl hR
theorem OG {cx:Cx} (hT:TabOk P cx.T) (hC:OU E.wl P cx) (hnp:tr.np=cx.np) {ops:Array Oper} {o:Oper} {st:ASt} {a:Act} {K:ASt->Prop} {Q:Exit->Act->World->Prop}
  (h:WJ cx ops o st K) (hR:RR E tr st a w) {next:Act->World->Prop} (hn :∀st' a' w',K st'->RR E tr st' a' w'->next a' w') :
  if Region.wanted o (yielded ops a.tmps) then o.wp P a w next Q else next (a.put o.dst undef) w:=by
 have plain :∀{tm:List AV} {ob:List (Option OB)},RR E tr ⟨tm,ob⟩ a w->opX cx o (evO tm) ob (fun v w=>KX tm o.dst v fun tm=>wrK ob w fun ob=>K ⟨tm,ob⟩)->o.wp P a w next Q:=by
  intro tm ob ⟨S,φ,hR,htr⟩ h
  obtain⟨out,wr,hK,hr,hrun⟩:=XK hT hC hR.mem (ρ:=a.eval) (fun x=>hR.av x) h
  rw[Gn,On] at hK
  refine Jz hrun fun v w' hp=>hn _ _ _ hK ?_
  obtain⟨S',φ',m',k',r',c'⟩:=hp
  have e:=WN ob wr hr
  exact⟨S',φ',hR.put (ob':=wrL ob wr) (by rw[e];exact m') (by rw[e];exact k') (by rw[e];exact r') (by rw[e];exact c'),by simp only[e];exact htr.kept k'⟩
 obtain⟨tm0,ob⟩:=st
 refine MY (Y:=fun tm=>aY cx o tm ob K) (fun tm hR h=>?_) (st:=⟨tm0,ob⟩) h hR hn
 simp only at hR
 unfold aY at h
 split at h
 ·rename_i c hop
  split at h
  ·rename_i x hca
   obtain⟨f,caps,h,hf⟩:=Om h
   split at h
   ·obtain⟨callee,args,argTypes⟩:=c
    simp only at hca
    subst hca
    refine Hh (E:=E) hnp h fun K' hX hw=>?_
    obtain⟨S,φ,hR,htr⟩:=hR
    obtain⟨g1,g2⟩:=hC.2.2 _ _ _ _ hX
    refine Jz (Ti (w:=w) (S:=S) (φ:=φ) (obl:=ob) (cx:=cx) (fun x=>hR.av x) hop hf (Q:=fun v w'=>∃S' φ' r ob',KX tm o.dst r (fun tm=>K' ⟨tm,ob'⟩)/\Mem E w' S' φ' (fun r=>ob'.getD r none)/\Kept w S φ (fun r=>ob.getD r none) w' S' φ' (fun r=>ob'.getD r none)/\
      RepA S' w' φ' (fun r=>ob'.getD r none) r v/\Closed (fun r=>ob'.getD r none) r) fun vals hv=>⟨g1,g2 E rfl w S φ vals hv hR.mem⟩) fun v w' ⟨S',φ',r,ob',hK,m',k',r',c'⟩=>?_
    rw[Gn] at hK
    obtain⟨st,h1,h2⟩:=hw _ _ _ hK ⟨S',φ',hR.put (ob':=ob') m' k' r' c',htr.kept k'⟩
    exact hn _ _ _ h1 h2
   exact plain hR h
  exact plain hR h
 exact plain hR h
theorem Nh {cx:Cx} (hT:TabOk P cx.T) (hC:OU E.wl P cx) (hnp:tr.np=cx.np) {ops:Array Oper} {Q:Exit->Act->World->Prop} :∀(l:List Nat) (os:List Oper) (_:l.map (fun i=>ops[i]?)=os.map some)
  {st:ASt} {a:Act} {w:World} {K:ASt->Prop} (_:YM cx ops os st K) (_:RR E tr st a w) (_ :∀st' a' w',K st'->RR E tr st' a' w'->Q .normal a' w'),wpOps P ops Q l a w
 | [],[],_,st,a,w,K,h,hR,hn=>hn st a w h hR
 | i::l,o::os,hm,st,a,w,K,h,hR,hn=>by
  simp only[List.map_cons,List.cons.injEq] at hm
  obtain⟨hi,hm⟩:=hm
  rw[wpOps_cons]
  unfold wpOp
  simp only[hi]
  simp only[YM] at h
  have:=OG (Q:=Q) hT hC hnp h hR (next:=wpOps P ops Q l) fun st' a' w' hK hR'=>Nh hT hC hnp l os hm hK hR' hn
  split
  ·rename_i hw;rw[if_pos hw] at this;exact .inl this
  rename_i hw;rw[if_neg hw] at this;exact this
 | [],_::_,hm,_,_,_,_,_,_,_=>by simp at hm
 | _::_,[],hm,_,_,_,_,_,_,_=>by simp at hm
theorem OR {cx:Cx} (hT:TabOk P cx.T) (hC:OU E.wl P cx) (hD:Sz E.wl P cx) (hnp:tr.np=cx.np) (c:Code) :
  ∀{st:ASt} {a:Act} {w:World} {K:AE->ASt->Prop} {Q:Exit->Act->World->Prop},Fh cx c K st->RR E tr st a w->(∀e st' a' w',K e st'->RR E tr st' a' w'->Q e.exit' a' w')->c.wp P Q a w:=by
 induction c with
 | skip=>intro st a w K Q h hR hn;exact wp_skip (hn .normal _ _ _ h hR)
 | region id ops draw=>
  intro st a w K Q h hR hn
  cases draw with
  | false=>
   have h:ay cx ops st (K .normal):=h
   unfold ay at h
   split at h
   ·refine Hh (E:=E) hnp h fun K' hX hw=>wp_region (Nh hT hC hnp (List.range ops.size) ops.toList (RV ops) hX hR fun st' a' w' hK hR'=>?_)
    obtain⟨s,h1,h2⟩:=hw _ _ _ hK hR'
    exact hn .normal _ _ _ h1 h2
   exact wp_region (Nh hT hC hnp (List.range ops.size) ops.toList (RV ops) h hR fun st' a' w' hK hR'=>hn .normal _ _ _ hK hR')
  | true=>
   simp only[Fh] at h
   split at h
   ·refine Hh (E:=E) hnp h fun K' hX hw=>hD E rfl tr id ops st a w _ Q hnp hX hR fun st' a' w' hK hR'=>?_
    obtain⟨s,h1,h2⟩:=hw _ _ _ hK hR'
    exact hn .normal _ _ _ h1 h2
   exact hD E rfl tr id ops st a w _ Q hnp h hR fun st' a' w' hK hR'=>hn .normal _ _ _ hK hR'
 | seq x y ihx ihy=>
  intro st a w K Q h hR hn
  simp only[Fh] at h
  refine wp_seq (ihx h hR fun e st' a' w' hK hR'=>?_)
  cases e with
  | normal=>exact ihy hK hR' hn
  | exit id=>exact hn _ _ _ _ hK hR'
  | ret=>exact hn _ _ _ _ hK hR'
 | cond c x y ihx ihy=>
  intro st a w K Q h hR hn
  simp only[Fh] at h
  obtain⟨S,φ,hR1,htr⟩:=hR
  split at h
  ·rename_i b hb
   have hav:=(hR1.av c).1
   rw[hb] at hav
   have hv:=hav.bool
   refine Hh (E:=E) hnp h fun K' hX hw=>?_
   have hn' :∀e st' a' w',onN K K' e st'->RR E tr st' a' w'->Q e.exit' a' w':=by
    intro e st' a' w' hK hR'
    cases e with
    | normal=>
     obtain⟨s,h1,h2⟩:=hw _ _ _ hK hR'
     exact hn .normal _ _ _ h1 h2
    | exit id=>exact hn _ _ _ _ hK hR'
    | ret=>exact hn _ _ _ _ hK hR'
   refine wp_cond hv ?_
   cases b with
   | true=>exact ihx hX ⟨S,φ,hR1,htr⟩ hn'
   | false=>exact ihy hX ⟨S,φ,hR1,htr⟩ hn'
  exact h.elim
 | block id b ih=>
  intro st a w K Q h hR hn
  simp only[Fh] at h
  refine Hh (E:=E) hnp h fun K' hX hw=>?_
  refine wp_block (ih hX hR fun e st' a' w' hK hR'=>?_)
  cases e with
  | normal=>
   obtain⟨s,h1,h2⟩:=hw _ _ _ hK hR'
   exact hn .normal _ _ _ h1 h2
  | ret=>exact hn .ret _ _ _ hK hR'
  | exit i=>
   simp only[onB] at hK
   simp only[AE.exit',Exit.inBlock]
   by_cases hi:i=id
   ·rw[if_pos hi]
    rw[BW.2 hi] at hK
    obtain⟨s,h1,h2⟩:=hw _ _ _ hK hR'
    exact hn .normal _ _ _ h1 h2
   rw[if_neg hi]
   have:Nat.beq i id=false:=by
    cases hb:Nat.beq i id with
    | false=>rfl
    | true=>exact absurd (BW.1 hb) hi
   rw[this] at hK
   exact hn (.exit i) _ _ _ hK hR'
 | loop b ih=>
  intro st a w K Q h hR hn
  have h:LoopP cx.np (Fh cx b) K st:=h
  obtain⟨h⟩:=h
  obtain⟨I,⟨s,n,hw,hI⟩,round⟩:=h (by
   intro t sz es he
   obtain⟨S,φ,hR1,htr⟩:=hR
   have hav:=(hR1.av (.tmp t)).1
   simp only[evO] at hav
   rw[he] at hav
   generalize a.eval (.tmp t)=v at hav
   cases hav with | d _ _ hav=>
   cases hav with
   | lst0=>simp
   | lst _ _ _ _ _ _ hl=>exact hl) (by
   intro r e sz es f he
   obtain⟨S,φ,hR1,htr⟩:=hR
   obtain⟨_,_,_,h⟩:=hR1.mem.obj r _ he
   rcases h with ⟨_,rfl⟩|⟨b,cap,vs,g,_,_,f3,f4,_⟩
   ·simp
   exact Nat.le_trans f3 f4)
  rw[<- hnp] at hw
  refine wp_loop_ghost (fun n a w=>∃s,I s n/\RR E tr s a w) n ⟨s,hI,LW hw rfl hR⟩ ?_
  rintro n a w ⟨s,hI,hR⟩
  refine ih (round s n hI) hR fun e st' a' w' hK hR'=>?_
  cases e with
  | normal=>
   obtain⟨s',m,hm,hw,hI'⟩:=hK
   rw[<- hnp] at hw
   exact⟨m,hm,s',hI',LW hw rfl hR'⟩
  | exit id=>exact hn _ _ _ _ hK hR'
  | ret=>exact hn _ _ _ _ hK hR'
 | exit id=>intro st a w K Q h hR hn;exact wp_exit (hn (.exit id) _ _ _ h hR)
 | ret=>intro st a w K Q h hR hn;exact wp_ret (hn .ret _ _ _ h hR)
 | rangeFunc=>intro st a w K Q h;simp[Fh] at h
 | scope=>intro st a w K Q h;simp[Fh] at h
 | label=>intro st a w K Q h;simp[Fh] at h
 | goto=>intro st a w K Q h;simp[Fh] at h
 | refuse=>intro st a w K Q h;simp[Fh] at h
end
end Go.AX
end
section
namespace Go.AX
section
variable {P:Program} {E:Env} {tr:Trk} {w:World} {S:Sc} {φ:Nat->Option (Nat×Rp)}
def ZF (tmps:Array Value):ResultVar->Sem Value
 | .tmp t=>pure (tmps.getD t undef)
 | .cell a t=>do loadVar t (← asAddr (tmps.getD a undef))
def Yt:List Value->Value
 | [u]=>u
 | us=>.tuple us.toArray
theorem V0 (fn:Func) (tmps:Array Value):results fn tmps=(do
  let vs ← fn.results.mapM (ZF tmps)
  pure (if h:vs.size=1 then vs[0] else .tuple vs)):=by
 unfold results
 congr 2
theorem N8 {fn:Func} {tmps:Array Value} {us:List Value} (h:(fn.results.toList.mapM (ZF tmps)).run P w=.ok us w):(results fn tmps).run P w=.ok (Yt us) w:=by
 rw[V0,Array.mapM_eq_mapM_toList]
 simp only[Sem.run_bind,Sem.run_map,h,Result.andThen_ok,Sem.run_pure]
 match us with
 | []=>rfl
 | [u]=>rfl
 | u::v::us=>rfl
theorem I2 {cx:Cx} (hT:TabOk P cx.T) {st:ASt} {a:Act} (hR:R E st a w S φ) :∀{rs:List ResultVar} {K:List AV->Prop},SU cx st rs K->
  ∃asz us,K asz/\(rs.mapM (ZF a.tmps)).run P w=.ok us w/\All2 (fun x v=>RepA S w φ (obf st.ob) x v/\Closed (obf st.ob) x) asz us
 | [],K,h=>⟨[],[],h,rfl,.nil⟩
 | .tmp t::rs,K,h=>by
  simp only[SU,CB] at h
  obtain⟨asz,us,h1,h2,h3⟩:=I2 hT hR h
  refine⟨_,a.tmps.getD t undef::us,h1,?_,.cons (hR.av (.tmp t)) h3⟩
  simp[List.mapM_cons,ZF,h2]
 | .cell p ty::rs,K,h=>by
  simp only[SU] at h
  have hp:=hR.av (.tmp p)
  simp only[evO] at hp
  split at h
  ·rename_i r off hr
   rw[hr] at hp
   obtain⟨out,u,h1,h2,h3,h4⟩:=OP hT hR.mem hp.1 hp.2 h
   obtain⟨asz,us,g1,g2,g3⟩:=I2 hT hR h1
   refine⟨_,u::us,g1,?_,.cons ⟨h3,h4⟩ g3⟩
   obtain⟨b,c,_,hv⟩:=hp.1.ref'
   have hv:a.tmps.getD p undef=.pointer (some ⟨b,off,none⟩):=hv
   have h2':(loadVar ty ⟨b,off,none⟩).run P w=.ok u w:=by
    have:(Instr.loadAt ty (a.tmps.getD p undef)).run P w=.ok u w:=h2
    rw[hv] at this
    simpa[Instr.loadAt,Instr.sureAddr] using this
   simp only[List.mapM_cons,ZF,hv,asAddr,Sem.run_bind,Sem.run_pure,Result.andThen_ok,h2',g2]
  exact h.elim
theorem Mem.restrict {ob:Nat->Option OB} (m:Mem E w S φ ob) {idx:List Nat} {objs:List OB} (hn:idx.Nodup) (hl:idx.length=objs.length)
  (ho :∀i (hi:i<idx.length) (hi':i<objs.length),ob idx[i]=some objs[i]/\BE objs[i]=true):Mem E w S (sel idx φ) (ofL objs):=by
 have get :∀{i:Nat},ofL objs i≠none->∃hi:i<idx.length,ob idx[i]≠none/\sel idx φ i=φ idx[i]:=by
  intro i h
  have hi:i<idx.length:=by
   refine Nat.lt_of_not_le fun hge=>h ?_
   simp[ofL,show objs.length<=i by omega]
  refine⟨hi,?_,by simp[sel,hi]⟩
  rw[(ho i hi (by omega)).1];simp
 refine⟨fun i o h=>?_,fun i j b c c' h1 h2 g1 g2=>?_,fun i o h r' hm=>?_,m.sS,m.kS,m.bS,m.nS,m.fr,m.sz,fun i b c h g=>?_,m.os⟩
 ·obtain⟨hi,h1,h2⟩:=get (i:=i) (by simp[h])
  have e1:objs[i]=o:=by simpa[ofL,show i<objs.length by omega] using h
  rw[<- e1]
  exact (m.obj _ _ (ho i hi (by omega)).1).rename (ho i hi (by omega)).2 h2
 ·obtain⟨hi,p1,p2⟩:=get h1
  obtain⟨hj,q1,q2⟩:=get h2
  rw[p2] at g1
  rw[q2] at g2
  exact (List.getElem_inj hn).1 (m.inj _ _ b c c' p1 q1 g1 g2)
 ·obtain⟨hi,_,_⟩:=get (i:=i) (by simp[h])
  have e1:objs[i]=o:=by simpa[ofL,show i<objs.length by omega] using h
  rw[<- e1,Ij (ho i hi (by omega)).2] at hm
  simp at hm
 obtain⟨hi,p1,p2⟩:=get h
 exact m.ow _ b c p1 (p2 ▸ g)
theorem M4 {obl:List (Option OB)} :∀{n i:Nat} {K:List OB->Prop},Ik obl n i K->∃objs,K objs/\objs.length=n/\∀j (hj:j<objs.length),obl.getD (i + j) none=some objs[j]/\BE objs[j]=true
 | 0,i,K,h=>⟨[],h,rfl,fun j hj=>by simp at hj⟩
 | n + 1,i,K,h=>by
  simp only[Ik,Ar] at h
  obtain⟨o,ho,h⟩:=h
  have go :∀{o:OB},obl.getD i none=some o->BE o=true->Ik obl n (i + 1) (fun l=>K (o::l))->∃objs,K objs/\objs.length=n + 1/\∀j (hj:j<objs.length),obl.getD (i + j) none=some objs[j]/\BE objs[j]=true:=by
   intro o ho hc h
   obtain⟨objs,g1,g2,g3⟩:=M4 h
   refine⟨o::objs,g1,by simp[g2],fun j hj=>?_⟩
   cases j with
   | zero=>exact⟨ho,hc⟩
   | succ j=>
    have:=g3 j (by simpa using hj)
    rw[show i + 1 + j=i + (j + 1) by omega] at this
    exact this
  cases o with
  | box cs=>
   simp only[G8] at h
   exact go ho h.1 h.2
  | row e sz es f=>
   simp only[AH] at h
   exact go ho h.1 h.2
  | gone=>exact go ho rfl h
  | amap=>exact h.elim
  | map k e es=>exact go ho rfl h
theorem NQ :∀{rs:List Nat} {r k:Nat},Uh rs r=some k->rs[k]?=some r
 | [],r,k,h=>by simp[Uh] at h
 | x::rs,r,k,h=>by
  simp only[Uh] at h
  split at h
  ·rename_i hb
   simp only[X24] at h
   subst h
   simp[X30 hb]
  split at h
  ·rename_i k' hk
   simp only[X24] at h
   subst h
   simpa using NQ hk
  simp at h
theorem RE :∀{rs:List Nat} {r:Nat},Uh rs r=none->MM rs r=false
 | [],r,_=>rfl
 | x::rs,r,h=>by
  simp only[Uh] at h
  split at h
  ·simp at h
  rename_i hb
  split at h
  ·simp at h
  rename_i hk
  simp only[MM,hb,RE hk,Bool.or_self]
def blF (rs:List Nat):AV->AV
 | .own r n=>(match MM rs r with
  | true=>.d (.nil 1)
  | false=>.own r n)
 | a=>a
theorem Pm (rs:List Nat) :∀cs:List AV,ND rs cs=cs.map (blF rs)
 | []=>rfl
 | c::cs=>by cases c<;>simp only[ND,List.map_cons,Pm rs cs]<;>rfl
def mxF (np:Nat) (rs:List Nat):AV->D->AV
 | .own r n,d=>(match Uh rs r with
  | some k=>.own (np + k) n
  | none=>.d d)
 | _,d=>.d d
theorem UO (np:Nat) (rs:List Nat) :∀(cs:List AV) (ds:List D),WB np rs cs ds=List.zipWith (mxF np rs) cs ds
 | [],ds=>by simp[WB]
 | c::cs,[]=>by cases c<;>simp[WB]
 | c::cs,d::ds=>by cases c<;>simp only[WB,List.zipWith_cons_cons,UO np rs cs ds]<;>rfl
theorem Sr {obl:List (Option OB)} {ob:Nat->Option OB} {np:Nat} {rs:List Nat} (m:Mem E w S φ ob) (hx:FrzExt (obf obl) ob) {cs:List AV} {v:Value} {K:AV->Prop} (hv:RepA S w φ ob (.agg cs) v) (h:S7 np obl rs cs K) :
  ∃x' wr S',K x'/\Mem E w S' φ (Ai ob wr)/\Kept w S φ ob w S' φ (Ai ob wr)/\FrzExt (obf obl) (Ai ob wr)/\(∀q ∈ wr,np<=q.1/\q.1 ∉ rs)/\rs.Nodup/\(∀r ∈ rs,np<=r)/\
   (∀(φ':Nat->Option (Nat×Rp)) (ob':Nat->Option OB),(∀k (hk:k<rs.length),φ' (np + k)=φ rs[k]/\ob' (np + k)=ob rs[k])->RepA S' w φ' ob' x' v)/\∀q ∈ x'.refs,∃k,k<rs.length/\q=np + k:=by
 unfold S7 at h
 rw[AH] at h
 obtain⟨h0,h⟩:=h
 simp only[X27,List.all_eq_true] at h0
 cases hv with | agg _ vs f hs hf hone hrr=>
 let pk:Nat->Bool:=fun i=>match cs[i]? with
  | some (.own r _)=>MM rs r
  | _=>false
 have hrep:RepA S w φ ob (.agg (ND rs cs)) (.agg (Array.ofFn (n:=cs.length) fun i=>if pk i then .slice none 0 0 else f i)):=by
  rw[Pm]
  refine .agg _ _ (fun i=>if pk i then .slice none 0 0 else f i) (by simp) (fun i hi=>?_) (fun i hi=>?_) fun i hi=>?_
  ·have hi:i<cs.length:=by simpa using hi
   simp[hi]
  ·have hi':i<cs.length:=by simpa using hi
   rw[List.getElem_map]
   have:=hone i hi'
   revert this
   generalize cs[i]=c
   intro this
   cases c<;>simp only[blF]<;>first | exact this | (split<;>first | rfl | exact this)
  have hi':i<cs.length:=by simpa using hi
  rw[List.getElem_map]
  have h1:=hrr i hi'
  have h2:pk i=match cs[i] with
   | .own r _=>MM rs r
   | _=>false:=by simp only[pk,X15 hi'];generalize cs[i]=c;cases c<;>rfl
  revert h1 h2
  generalize cs[i]=c
  intro h1 h2
  cases c<;>simp only[blF]<;>simp only at h2<;>(try (rw[if_neg (by simp[h2])];exact h1))
  rename_i r n
  cases hb:MM rs r with
  | true=>rw[if_pos (by rw[h2,hb])];exact .d _ _ (.nil 1)
  | false=>rw[if_neg (by rw[h2,hb];simp)];exact h1
 obtain⟨y,wr,S',h1,h2,h3,h4,h5,h6⟩:=Dj m hx hrep h
 cases y with
 | agg ds=>
  simp only[AH] at h1
  obtain⟨hw,hK⟩:=h1
  have hw' :∀q ∈ wr,np<=q.1/\q.1 ∉ rs:=fun q hq=>by
   have:=List.all_eq_true.1 hw q hq
   simp only[X27,Bool.not_eq_true'] at this
   exact⟨X29 this.1,fun e=>by rw[VB.2 e] at this;simp at this⟩
  cases h4 with | agg _ _ g gs gf gn gr=>
  have hlen:ds.length=cs.length:=by simpa using gs.symm
  rw[UO] at hK
  have hml:(List.zipWith (mxF np rs) cs ds).length=cs.length:=by simp[hlen]
  refine⟨_,wr,S',hK,h2,h3,h5,hw',O6 h0.1,fun r hr=>X29 (h0.2 r hr),fun φ' ob' he=>?_,fun q hq=>?_⟩
  ·refine .agg _ _ f (by omega) (fun i hi=>hf i (by omega)) (fun i hi=>?_) fun i hi=>?_
   ·have hi':i<ds.length:=by omega
    rw[List.getElem_zipWith]
    have hn:=gn i hi'
    generalize cs[i]'(by omega)=c
    have hd :∀d:D,d.isAgg=false->(AV.d d).one=true:=fun d hd=>by simp[AV.one,hd]
    cases c<;>simp only[mxF]<;>first | exact hd _ hn | (split<;>first | rfl | exact hd _ hn)
   have hi':i<ds.length:=by omega
   have hi2:i<cs.length:=by omega
   rw[List.getElem_zipWith]
   have q1:=hrr i hi2
   have q2:=gr i hi'
   have q3:=gf i hi'
   have h2:pk i=match cs[i] with
    | .own r _=>MM rs r
    | _=>false:=by simp only[pk,X15 hi2];generalize cs[i]=c;cases c<;>rfl
   have q4:pk i=false->RepA S' w φ' ob' (.d ds[i]) (f i):=by
    intro hp
    have:g i=f i:=by
     simp only[Array.getElem?_ofFn,hi2,dif_pos,hp] at q3
     simpa using q3.symm
    rw[<- this]
    exact .d _ _ q2
   revert q1 h2
   generalize cs[i]=c
   intro q1 h2
   cases c<;>simp only[mxF]<;>simp only at h2<;>(try exact q4 h2)
   rename_i r n
   split
   ·rename_i k hk
    have hk2:=NQ hk
    obtain⟨hk3,hk4⟩:=X16.1 hk2
    obtain⟨e1,e2⟩:=he k hk3
    rw[hk4] at e1 e2
    cases q1 with | own _ _ _ kk c a0 hv' hk h1' hb=>
    refine .own _ n _ kk c a0 hv' hk (fun e' sz' es' f' hx=>?_) fun cs hx=>?_
    ·obtain⟨g1,g2⟩:=h1' e' sz' es' f' (e2.symm.trans hx)
     refine⟨g1,fun hn=>?_⟩
     have:=g2 hn
     unfold Hm at *
     rwa [e1]
    obtain⟨g1,b,c',g2,g3⟩:=hb cs (e2.symm.trans hx)
    exact⟨g1,b,c',e1.trans g2,g3⟩
   rename_i hk
   exact q4 (h2.trans (RE hk))
  obtain⟨c,hc1,hc2⟩:=AV.refs_mem' _ q (by simpa[AV.refs] using hq)
  obtain⟨i,hi,rfl⟩:=List.getElem_of_mem hc1
  rw[List.getElem_zipWith] at hc2
  revert hc2
  generalize cs[i]'(by omega)=c
  intro hc2
  cases c<;>simp only[mxF] at hc2<;>(try (simp[AV.refs] at hc2;done))
  split at hc2
  ·rename_i k hk
   have:=(X16.1 (NQ hk)).1
   exact⟨k,this,by simpa[AV.refs] using hc2⟩
  simp[AV.refs] at hc2
 | _=>exact h1.elim
theorem N9 {obl:List (Option OB)} :∀{rs:List Nat} {K:List OB->Prop},HB obl rs K->∃os,K os/\os.length=rs.length/\∀i (hi:i<os.length) (hi':i<rs.length),obf obl rs[i]=some os[i]/\BE os[i]=true
 | [],K,h=>⟨[],h,rfl,fun i hi=>by simp at hi⟩
 | r::rs,K,h=>by
  simp only[HB,Ar] at h
  obtain⟨o,ho,h⟩:=h
  cases o with
  | row e sz es f=>
   simp only[AH] at h
   obtain⟨hlk,h⟩:=h
   obtain⟨os,g1,g2,g3⟩:=N9 h
   refine⟨_,g1,by simp[g2],fun i hi hi'=>?_⟩
   cases i with
   | zero=>exact⟨ho,hlk⟩
   | succ i=>exact g3 i (by simpa using hi) (by simpa using hi')
  | _=>exact h.elim
theorem QW {obl:List (Option OB)} {ob:Nat->Option OB} {np:Nat} (m:Mem E w S φ ob) (hx:FrzExt (obf obl) ob) {x:AV} {v:Value} {K:AV->Option Nat->Prop} (hv:RepA S w φ ob x v) (hc:Closed (obf obl) x) (h:V2 np obl x K) :
  ∃x' nw wr S',K x' nw/\Mem E w S' φ (Ai ob wr)/\Kept w S φ ob w S' φ (Ai ob wr)/\FrzExt (obf obl) (Ai ob wr)/\(∀q ∈ wr,np<=q.1)/\
   ((nw=none/\RepA S' w φ (Ai ob wr) x' v/\Closed (obf obl) x'/\∀r ∈ x'.refs,r<np) \/∃r,nw=some r/\np<=r/\(∀q ∈ wr,q.1≠r)/\
    (∀(φ':Nat->Option (Nat×Rp)) (ob':Nat->Option OB),φ' np=φ r->ob' np=Ai ob wr r->RepA S' w φ' ob' x' v)/\∀q ∈ x'.refs,q=np):=by
 cases x<;>simp only[V2] at h
 case d y=>
  rw[D4] at h
  cases hv with | d _ _ hv=>
  exact⟨_,_,[],S,h,m,.refl _ _ _ _,hx,fun q hq=>by simp at hq,.inl ⟨rfl,.d _ _ hv.norm,A6 _ _,fun r hr=>by simp[AV.refs] at hr⟩⟩
 case own r n=>
  split at h
  ·rename_i hb
   exact⟨_,_,[],S,h,m,.refl _ _ _ _,hx,fun q hq=>by simp at hq,.inl ⟨rfl,hv,hc,fun r' hr'=>by simp only[AV.refs,X14] at hr';rw[hr'];exact X29 hb⟩⟩
  rename_i hb
  have hge:np<=r:=by
   refine Nat.le_of_not_lt fun hlt=>?_
   rw[show Nat.blt r np=true from Nat.ble_eq_true_of_le hlt] at hb
   simp at hb
  rcases h with h | h
  ·have h0:=h
   simp only[toD,Ar] at h0
   obtain⟨y,wr,S',h1,h2,h3,h4,h5,h6⟩:=Dj (K:=fun x w=>K (.d x) none/\∀q ∈ w,np<=q.1) m hx hv (by
    obtain⟨o,ho,h0⟩:=h0
    simp only[toD,Ar]
    refine⟨o,ho,?_⟩
    cases o with
    | box=>exact h0
    | map=>exact h0
    | gone=>exact h0
    | amap=>exact h0
    | row e sz es f=>exact⟨h0.1,h0.2,fun q hq=>by simp only[X14] at hq;rw[hq];exact hge⟩)
   exact⟨_,_,wr,S',h1.1,h2,h3,h5,h1.2,.inl ⟨rfl,.d _ _ h4,A6 _ _,fun r hr=>by simp[AV.refs] at hr⟩⟩
  refine⟨_,_,[],S,h,m,.refl _ _ _ _,hx,fun q hq=>by simp at hq,.inr ⟨r,rfl,hge,fun q hq=>by simp at hq,fun φ' ob' e1 e2=>?_,fun q hq=>by simpa[AV.refs] using hq⟩⟩
  cases hv with | own _ _ _ k c a0 hv' hk h1' hb=>
  refine .own _ n _ k c a0 hv' hk (fun e' sz' es f' hx=>?_) fun cs hx=>?_
  ·obtain⟨g1,g2⟩:=h1' e' sz' es f' (e2.symm.trans hx)
   refine⟨g1,fun hn=>?_⟩
   have:=g2 hn
   unfold Hm at *
   rwa [e1]
  obtain⟨g1,b,c',g2,g3⟩:=hb cs (e2.symm.trans hx)
  exact⟨g1,b,c',e1.trans g2,g3⟩
 case agg cs=>
  obtain⟨y,wr,S',h1,h2,h3,h4,h5,h6⟩:=Dj m hx hv h
  rw[AH] at h1
  refine⟨_,_,wr,S',h1.2,h2,h3,h5,fun q hq=>?_,.inl ⟨rfl,.d _ _ h4,A6 _ _,fun r hr=>by simp[AV.refs] at hr⟩⟩
  have:=h1.1
  simp only[List.all_eq_true] at this
  exact X29 (this q hq)
 case mp r=>
  split at h
  ·rename_i hb
   exact⟨_,_,[],S,h,m,.refl _ _ _ _,hx,fun q hq=>by simp at hq,.inl ⟨rfl,hv,hc,fun r' hr'=>by simp only[AV.refs,X14] at hr';rw[hr'];exact X29 hb⟩⟩
  rename_i hb
  have hge:np<=r:=by
   refine Nat.le_of_not_lt fun hlt=>?_
   rw[show Nat.blt r np=true from Nat.ble_eq_true_of_le hlt] at hb
   simp at hb
  refine⟨_,_,[],S,h,m,.refl _ _ _ _,hx,fun q hq=>by simp at hq,.inr ⟨r,rfl,hge,fun q hq=>by simp at hq,fun φ' ob' e1 e2=>?_,fun q hq=>by simpa[AV.refs] using hq⟩⟩
  cases hv with | mp _ b c hφ hb hc'=>
  exact .mp _ b c (e1.trans hφ) (fun e' sz' es f' hx=>hb e' sz' es f' (e2.symm.trans hx)) fun cs hx=>hc' cs (e2.symm.trans hx)
 case ref r off=>
  split at h
  ·rename_i hb
   exact⟨_,_,[],S,h,m,.refl _ _ _ _,hx,fun q hq=>by simp at hq,.inl ⟨rfl,hv,hc,fun r' hr'=>by simp only[AV.refs,X14] at hr';rw[hr'];exact X29 hb⟩⟩
  rename_i hb
  have hge:np<=r:=by
   refine Nat.le_of_not_lt fun hlt=>?_
   rw[show Nat.blt r np=true from Nat.ble_eq_true_of_le hlt] at hb
   simp at hb
  refine⟨_,_,[],S,h,m,.refl _ _ _ _,hx,fun q hq=>by simp at hq,.inr ⟨r,rfl,hge,fun q hq=>by simp at hq,fun φ' ob' e1 e2=>?_,fun q hq=>by simpa[AV.refs] using hq⟩⟩
  cases hv with | ref _ _ b c hφ hb=>
  exact .ref _ off b c (e1.trans hφ) fun e' sz' es f' hx=>hb e' sz' es f' (e2.symm.trans hx)
theorem N3 {obl:List (Option OB)} {np:Nat} :∀{xs:List AV} {vs:List Value} {S:Sc} {ob:Nat->Option OB} {K:List AV->Prop} (_:Mem E w S φ ob) (_:FrzExt (obf obl) ob) (_:All2 (fun x v=>RepA S w φ ob x v/\Closed (obf obl) x) xs vs) (_:VO np obl xs K),
  ∃xs' wr S',K xs'/\Mem E w S' φ (Ai ob wr)/\Kept w S φ ob w S' φ (Ai ob wr)/\FrzExt (obf obl) (Ai ob wr)/\(∀q ∈ wr,np<=q.1)/\All2 (fun x v=>RepA S' w φ (Ai ob wr) x v/\Closed (obf obl) x/\∀r ∈ x.refs,r<np) xs' vs
 | [],[],S,ob,K,m,hx,_,h=>⟨[],[],S,h,m,.refl _ _ _ _,hx,fun q hq=>by simp at hq,.nil⟩
 | x::xs,v::vs,S,ob,K,m,hx,hv,h=>by
  cases hv with | cons h1 h2=>
  simp only[VO] at h
  obtain⟨x',nw,wr,S1,hK,m1,k1,hx1,hw1,hr⟩:=QW m hx h1.1 h1.2 h
  rcases hr with ⟨rfl,r1,r2,r3⟩|⟨r,rfl,_⟩
  ·simp only at hK
   have hcl :∀{r:Nat},obf obl r≠none->ob r≠none:=by
    intro r hr
    rcases hx r with e1 | ⟨e,sz,es,f,e1,e2⟩
    ·rw[e1];exact hr
    rw[e2];simp
   have hcl1 :∀{r:Nat},obf obl r≠none->Ai ob wr r≠none:=by
    intro r hr
    rcases hx1 r with e1 | ⟨e,sz,es,f,e1,e2⟩
    ·rw[e1];exact hr
    rw[e2];simp
   obtain⟨xs',wr2,S2,g1,g2,g3,g4,g5,g6⟩:=N3 m1 hx1 (h2.imp fun a v hav=>⟨k1.rep (fun r hr=>hcl (hav.2 r hr)) hav.1,hav.2⟩) hK
   refine⟨x'::xs',wr++wr2,S2,g1,by rw[AS];exact g2,by rw[AS];exact k1.trans g3,by rw[AS];exact g4,fun q hq=>?_,?_⟩
   ·rcases X23.1 hq with hq | hq
    ·exact hw1 q hq
    exact g5 q hq
   rw[AS]
   exact .cons ⟨g3.rep (fun r hr=>hcl1 (r2 r hr)) r1,r2,r3⟩ g6
  exact hK.elim
 | [],_::_,_,_,_,_,_,hv,_=>by cases hv
 | _::_,[],_,_,_,_,_,hv,_=>by cases hv
theorem L0 {ob:Nat->Option OB} {idx:List Nat} {objs:List OB} {np:Nat} {x:AV} {v:Value} (h:RepA S w φ ob x v) (hr :∀r ∈ x.refs,r<np) (hi :∀r,r<np->idx[r]?=some r) (ho :∀r,r<np->ofL objs r=ob r) :
  RepA S w (sel idx φ) (ofL objs) x v:=by
 refine h.mono (fun _ _ h=>⟨h,rfl⟩) fun r hr'=>.inl ?_
 have:=hr r hr'
 simp[sel,hi r this,ho r this]
theorem Va {wl : WL} {cx : Cx} (hT : TabOk P cx.T) (hC : OU wl P cx) (hD : Sz wl P cx) {f : FuncId} {fn : Func} (hf : P.funcs[f]? = some fn) (hname : fn.name ≠ "runtime.NumGoroutine")
  {args:List AV} {objs:List OB} {res:AV} {objs':List OB} (h:Ye cx fn args objs fun r o=>r=res/\o=objs'):CallsOK wl P f args objs res objs':=by
 obtain⟨hnp,h⟩:=h
 cases hb:fn.body with
 | none=>simp[hb] at h
 | some c=>
  simp only[hb] at h
  refine⟨⟨fn,hf,hname,by rw[hb];rfl⟩,fun w S φ gb hg vals hsz hargs hnone m=>?_⟩
  have hobf:obf (P1 cx.ex fn args objs).ob=ofL objs:=by
   funext r
   simp only[obf,P1,ofL,List.getD_eq_getElem?_getD]
   by_cases hr:r<objs.length
   ·rw[List.getElem?_append_left (by simpa using hr)]
    simp[hr]
   rw[List.getElem?_append_right (by simpa using hr)]
   simp only[X10,List.getElem?_replicate]
   split<;>simp[show objs.length<=r by omega]
  refine calls_of_wp hf hb (OR (E:=⟨w,S,IY φ objs.length,wl,gb,hg⟩) (tr:=⟨objs.length,φ,ofL objs⟩) hT hC hD hnp.symm c h ⟨S,φ,⟨?_,fun i hi=>?_,rfl,by rw[hobf];exact m⟩,fun r hr h0=>?_⟩ ?_)
  ·simp[P1,hsz]
  ·rw[hobf]
   simp only[P1,List.getElem_append]
   split
   ·rename_i hlt
    have:=hargs i hlt
    have e:(vals++Array.replicate (fn.ntmps - vals.size) undef).getD i undef=vals.getD i undef:=by
     have:i<vals.size:=by omega
     simp[Array.getElem?_append_left this]
    rw[e];exact this
   rw[List.getElem_replicate]
   exact⟨.dead _,FT _⟩
  ·rw[hobf]
   refine⟨by simp only[ofL];rw[X15 hr];simp,.refl _ _ _⟩
  ·
   intro e st a w' hl hR
   obtain⟨S1,φ1,hR,htr⟩:=hR
   have hne :∀id,e≠.exit id:=fun id he=>by subst he;exact hl
   have hl':SU cx st fn.results.toList (fun asz=>Ik st.ob cx.np 0 fun objs=>(match asz with
    | [a]=>leave1 cx.np st.ob (fun r o=>r=res/\o=objs') a objs
    | asz=>VO cx.np st.ob asz fun asz'=>.tup asz'=res/\objs=objs')):=by
    cases e with
    | exit id=>exact absurd rfl (hne id)
    | normal=>exact hl
    | ret=>exact hl
   obtain⟨asz,us,h1,h2,h3⟩:=I2 hT hR hl'
   obtain⟨obs,h1,ho1,ho2⟩:=M4 h1
   simp only[Nat.zero_add] at ho2
   rw[hnp] at ho1 h1
   have hrun:=N8 h2
   suffices hend :∃v,(results fn a.tmps).run P w'=.ok v w'/\∃S' φ',Mem ⟨w,S,IY φ objs.length,wl,gb,hg⟩ w' S' φ' (ofL objs')/\Kept w S φ (ofL objs) w' S' φ' (ofL objs')/\RepA S' w' φ' (ofL objs') res v/\Closed (ofL objs') res by
    obtain⟨v,g1,g2⟩:=hend
    have:a.defers=[]/\∃v,(results fn a.tmps).run P w'=.ok v w'/\∃v',Ending.returned v=.returned v'/\∃S' φ',Mem ⟨w,S,IY φ objs.length,wl,gb,hg⟩ w' S' φ' (ofL objs')/\Kept w S φ (ofL objs) w' S' φ' (ofL objs')/\RepA S' w' φ' (ofL objs') res v'/\Closed (ofL objs') res:=
     ⟨hR.df,v,g1,v,rfl,g2⟩
    cases e with
    | exit id=>exact absurd rfl (hne id)
    | normal=>exact this
    | ret=>exact this
   have fin :∀{S':Sc} {ob:Nat->Option OB} {idx:List Nat} {x:AV} {v:Value} (_:Mem ⟨w,S,IY φ objs.length,wl,gb,hg⟩ w' S' φ1 ob) (_ :∀r,r<objs.length->ob r=obf st.ob r) (_:idx.Nodup) (_:idx.length=objs'.length)
     (_ :∀i (hi:i<idx.length) (hi':i<objs'.length),ob idx[i]=some objs'[i]/\BE objs'[i]=true) (_ :∀r,r<objs.length->idx[r]?=some r) (_:Ls S1 w' S' w')
     (_:RepA S' w' (sel idx φ1) (ofL objs') x v) (_:Closed (ofL objs') x),∃S' φ',Mem ⟨w,S,IY φ objs.length,wl,gb,hg⟩ w' S' φ' (ofL objs')/\Kept w S φ (ofL objs) w' S' φ' (ofL objs')/\RepA S' w' φ' (ofL objs') x v/\Closed (ofL objs') x:=by
    intro S' ob idx x v m' hob hn hl ho hi hk hv hc
    refine⟨S',_,m'.restrict hn hl ho,⟨fun b o hS=>⟨m'.sS b o hS,m'.kS b o hS⟩,fun r hr=>?_,fun r hr=>?_⟩,hv,hc⟩
    ·have hlt:r<objs.length:=by
      refine Nat.lt_of_not_le fun hge=>hr ?_
      simp[ofL,hge]
     obtain⟨q1,q2⟩:=htr r hlt (by simp[ofL,hlt])
     have e1:sel idx φ1 r=φ1 r:=by simp[sel,hi r hlt]
     have hlt2:=(X16.1 (hi r hlt)).1
     have e3:idx[r]=r:=(X16.1 (hi r hlt)).2
     have e2:ofL objs' r=obf st.ob r:=by
      have:=(ho r hlt2 (by omega)).1
      rw[e3,hob r hlt] at this
      rw[this]
      simp[ofL,show r<objs'.length by omega]
     unfold RefOK at q2 ⊢
     rw[e1,e2]
     exact q2
    have hlt:r<objs.length:=by
     refine Nat.lt_of_not_le fun hge=>hr ?_
     simp[ofL,hge]
    have hlt2:=(X16.1 (hi r hlt)).1
    simp only[ofL]
    rw[X15 (show r<objs'.length by omega)]
    simp
   have hcl :∀{ob:Nat->Option OB},FrzExt (obf st.ob) ob->∀{wr:W},True:=fun _ {_}=>trivial
   have hrange :∀r,r<objs.length->(List.range objs.length)[r]?=some r:=fun r hr=>by simp[hr]
   have hoff :∀{wr:W} {r:Nat},(∀q ∈ wr,objs.length<=q.1)->r<objs.length->Ai (obf st.ob) wr r=obf st.ob r:=fun hw hr=>EL _ _ _ fun q hq e=>by have:=hw q hq;omega
   split at h1
   ·
    rename_i x _
    cases h3 with | cons hv hrest=>
    cases hrest
    rename_i u
    have h1:(V2 objs.length st.ob x fun a' nw=>(match nw with
     | none=>a'=res/\obs=objs'
     | some r=>C7 st.ob r fun o=>match o with
      | .box cs=>Gi.cellsD cs fun cs=>a'=res/\obs++[.box cs]=objs'
      | .row e sz es frz=>AU (!frz.linked) (a'=res/\obs++[.row e sz es frz]=objs')
      | .map k e es=>a'=res/\obs++[.map k e es]=objs'
      | .amap ..=>False
      | .gone=>False))\/(∃sz e,x=.d (.nil sz)/\0<sz/\AV.own objs.length 0=res/\obs++[.row e sz [] .no]=objs') \/
       (∃cs rs,x=.agg cs/\S7 objs.length st.ob rs cs fun x=>HB st.ob rs fun os=>x=res/\obs++os=objs') \/
       ∃r n e sz es,x=.own r n/\r<objs.length/\obs[r]?=some (.row e sz es .no)/\AV.own objs.length n=res/\obs.set r .gone++[.row e sz es .no]=objs':=by
     unfold leave1 at h1
     split at h1
     ·rename_i sz _
      rcases h1 with h1 | ⟨h0,e,h1,h2⟩
      ·exact .inl (by simpa[V2,N5] using h1)
      exact .inr (.inl ⟨sz,e,rfl,h0,h1,h2⟩)
     ·rcases h1 with h1 | ⟨rs,h1⟩
      ·exact .inl h1
      exact .inr (.inr (.inl ⟨_,rs,rfl,h1⟩))
     ·rcases h1 with h1 | h1
      ·exact .inl h1
      rw[AH] at h1
      obtain⟨hb,h1⟩:=h1
      split at h1
      ·rename_i e sz es hg
       exact .inr (.inr (.inr ⟨_,_,e,sz,es,rfl,X29 hb,hg,h1.1,h1.2⟩))
      exact h1.elim
     exact .inl h1
    rcases h1 with h1 | ⟨sz,e,rfl,h0,rfl,rfl⟩|⟨cs,rs,rfl,h9⟩|⟨r,n,e,sz,es,rfl,hrl,hgr,rfl,rfl⟩
    rotate_right
    ·
     have hfree:obf st.ob (st.ob.length + objs.length)=none:=by simp[obf]
     have hor:obf st.ob r=some (.row e sz es .no):=by
      have h2:=(ho2 r (by omega)).1
      rw[X15 (by omega)] at hgr
      rw[X25 hgr] at h2
      exact h2
     have hown:=hv.1
     cases hown with | own _ _ _ k c a0 hv' hk h1' hb=>
     obtain⟨hn1,hn2⟩:=h1' e sz es .no hor
     obtain⟨g0,_,_,g3⟩:=hR.mem.obj r _ hor
     have hp :∃p:Option (Nat×Rp),((p=none/\es=[]) \/∃b c c',φ1 r=some (b,c)/\p=some (b,(c',c.2 + 0 * sz))/\es.length<=c'/\0 + c'<=c.1)/\p=φ1 r:=by
      rcases g3 with ⟨f1,f2⟩|⟨b,cap,vs,f,f1,f2,f3,f4,f5,f6,f7,f8⟩
      ·exact⟨none,.inl ⟨rfl,f2⟩,f1.symm⟩
      exact⟨some (b,(cap.1,cap.2 + 0 * sz)),.inr ⟨b,cap,cap.1,f1,rfl,f3,by omega⟩,by rw[f1];simp⟩
     obtain⟨p,hp1,hp2⟩:=hp
     obtain⟨m1,k1⟩:=hR.mem.moveAt r (st.ob.length + objs.length) e sz 0 es es p hor hfree (by omega) (fun i hi=>by simp) hp1
     have htr1:=Trk.ok.kept htr k1
     refine⟨_,hrun,?_⟩
     have hne :∀q,q<objs.length->q≠st.ob.length + objs.length:=fun q hq=>by omega
     have hidx:(List.range objs.length++[st.ob.length + objs.length]).Nodup:=by
      rw[List.nodup_append]
      exact⟨List.nodup_range,by simp,fun a ha b hb=>by simp at ha hb;omega⟩
     have hob2 :∀i (hi:i<objs.length),upd (upd (obf st.ob) r (some .gone)) (st.ob.length + objs.length) (some (.row e sz es .no)) i=some ((obs.set r .gone)[i]'(by simp;omega))/\BE ((obs.set r .gone)[i]'(by simp;omega))=true:=fun i hi=>by
      rw[AP _ _ _ _ (hne i hi)]
      by_cases hir:i=r
      ·subst hir
       rw[upd_same]
       simp[BE]
      rw[AP _ _ _ _ hir,List.getElem_set_ne (Ne.symm hir)]
      exact ho2 i (by omega)
     have hmem:=m1.restrict (objs:=obs.set r .gone++[.row e sz es .no]) hidx (by simp[ho1]) (fun i hi hi'=>by
      simp only[X11,List.length_range,X22] at hi
      by_cases hlt:i<objs.length
      ·rw[List.getElem_append_left (by simpa using hlt),List.getElem_append_left (by simp;omega)]
       simp only[List.getElem_range]
       exact hob2 i hlt
      have:i=objs.length:=by omega
      subst this
      rw[List.getElem_append_right (by simp),List.getElem_append_right (by simp;omega)]
      simp only[List.length_range,Nat.sub_self,List.getElem_cons_zero,X21,ho1]
      exact⟨upd_same _ _ _,rfl⟩)
     have hofl:ofL (obs.set r .gone++[.row e sz es .no]) objs.length=some (.row e sz es .no):=by
      simp only[ofL]
      rw[List.getElem?_append_right (by simp;omega)]
      simp[ho1]
     have hsel:sel (List.range objs.length++[st.ob.length + objs.length]) (upd (upd φ1 r none) (st.ob.length + objs.length) p) objs.length=φ1 r:=by
      simp only[sel]
      rw[List.getElem?_append_right (by simp)]
      simp[hp2]
     refine⟨S1,_,hmem,⟨fun b o hS=>⟨m1.sS b o hS,m1.kS b o hS⟩,fun q hq=>?_,fun q hq=>?_⟩,?_,?_⟩
     ·have hlt:q<objs.length:=by
       refine Nat.lt_of_not_le fun hge=>hq ?_
       simp[ofL,hge]
      obtain⟨q1,q2⟩:=htr1 q hlt (by simp[ofL,hlt])
      have e1:sel (List.range objs.length++[st.ob.length + objs.length]) (upd (upd φ1 r none) (st.ob.length + objs.length) p) q=upd (upd φ1 r none) (st.ob.length + objs.length) p q:=by
       simp only[sel]
       rw[List.getElem?_append_left (by simpa using hlt)]
       simp[hlt]
      have e2:ofL (obs.set r .gone++[.row e sz es .no]) q=upd (upd (obf st.ob) r (some .gone)) (st.ob.length + objs.length) (some (.row e sz es .no)) q:=by
       rw[(hob2 q hlt).1]
       simp only[ofL]
       rw[List.getElem?_append_left (by simp;omega),X15]
      unfold RefOK at q2 ⊢
      rw[e1,e2]
      exact q2
     ·have hlt:q<objs.length:=by
       refine Nat.lt_of_not_le fun hge=>hq ?_
       simp[ofL,hge]
      simp only[ofL]
      rw[List.getElem?_append_left (by simp;omega)]
      simp[ho1,hlt]
     ·refine .own _ n _ k c a0 hv' hk (fun e' sz' es' f' hx=>?_) fun cs hx=>?_
      ·rw[hofl] at hx
       simp only[X24,OB.row.injEq] at hx
       obtain⟨rfl,rfl,rfl,rfl⟩:=hx
       refine⟨hn1,fun hn=>?_⟩
       have:=hn2 hn
       unfold Hm at *
       rwa [hsel]
      rw[hofl] at hx;simp at hx
     intro q hq
     have:q=objs.length:=by simpa[AV.refs] using hq
     rw[this,hofl]
     simp
    rotate_right
    ·
     obtain⟨x',wr,S',hK,m1,k1,hx1,hw1,hnd,hge,hrep,hrefs⟩:=Sr hR.mem (FrzExt.refl _) hv.1 h9
     obtain⟨os,⟨rfl,rfl⟩,hol,hos⟩:=N9 hK
     refine⟨u,hrun,?_⟩
     have hg1 :∀q ∈ wr,objs.length<=q.1:=fun q hq=>(hw1 q hq).1
     have hget :∀k (hk:k<rs.length),(List.range objs.length++rs)[objs.length + k]?=some rs[k]:=fun k hk=>by
      rw[List.getElem?_append_right (by simp)]
      simp[hk]
     have hgo :∀k (hk:k<rs.length),ofL (obs++os) (objs.length + k)=some (os[k]'(by omega)):=fun k hk=>by
      simp only[ofL]
      rw[List.getElem?_append_right (by omega),ho1,Nat.add_sub_cancel_left]
      simp[show k<os.length by omega]
     have hor :∀k (hk:k<rs.length),Ai (obf st.ob) wr rs[k]=some (os[k]'(by omega)):=fun k hk=>by
      rw[EL _ _ _ fun q hq e=>(hw1 q hq).2 (e ▸ List.getElem_mem hk)]
      exact (hos k (by omega) hk).1
     have hidx:(List.range objs.length++rs).Nodup:=by
      rw[List.nodup_append]
      exact⟨List.nodup_range,hnd,fun a ha b hb e=>by
       have:=hge b hb
       simp at ha
       omega⟩
     refine fin m1 (fun r hr=>hoff hg1 hr) hidx (by simp[ho1,hol]) (fun i hi hi'=>?_) (fun q hq=>?_) k1.k (hrep _ _ fun k hk=>⟨?_,?_⟩) fun q hq=>?_
     ·simp only[X11,List.length_range] at hi
      by_cases hlt:i<objs.length
      ·rw[List.getElem_append_left (by simpa using hlt),List.getElem_append_left (by omega)]
       simp only[List.getElem_range]
       rw[hoff hg1 hlt]
       exact ho2 i (by omega)
      rw[List.getElem_append_right (by simp;omega),List.getElem_append_right (by omega)]
      simp only[List.length_range,ho1]
      exact⟨hor _ (by omega),(hos _ (by omega) (by omega)).2⟩
     ·rw[List.getElem?_append_left (by simpa using hq)]
      exact hrange q hq
     ·simp only[sel,hget k hk,Option.bind_some]
     ·rw[hgo k hk]
      exact (hos k (by omega) hk).1.symm
     obtain⟨k,hk,rfl⟩:=hrefs q hq
     rw[hgo k hk]
     simp
    rotate_left
    ·
     cases hv.1 with | d _ _ hn=>
     cases hn with | nil=>
     have hfree:obf st.ob (st.ob.length + objs.length)=none:=by simp[obf]
     obtain⟨m1,k1⟩:=hR.mem.empty (st.ob.length + objs.length) e sz hfree h0
     refine⟨_,hrun,?_⟩
     have hne :∀q,q<objs.length->q≠st.ob.length + objs.length:=fun q hq=>by omega
     have hob :∀q,q<objs.length->obf st.ob q=ofL obs q:=fun q hq=>by
      have:=(ho2 q (by omega)).1
      simp only[obf,this,ofL]
      simp[show q<obs.length by omega]
     have hidx:(List.range objs.length++[st.ob.length + objs.length]).Nodup:=by
      rw[List.nodup_append]
      exact⟨List.nodup_range,by simp,fun a ha b hb=>by simp at ha hb;omega⟩
     have hmem:=m1.restrict (objs:=obs++[.row e sz [] .no]) hidx (by simp[ho1]) (fun i hi hi'=>by
      simp only[X11,List.length_range,X22] at hi
      by_cases hlt:i<objs.length
      ·rw[List.getElem_append_left (by simpa using hlt),List.getElem_append_left (by omega)]
       simp only[List.getElem_range]
       rw[AP _ _ _ _ (hne i hlt)]
       exact ho2 i (by omega)
      have:i=objs.length:=by omega
      subst this
      rw[List.getElem_append_right (by simp),List.getElem_append_right (by omega)]
      simp only[List.length_range,Nat.sub_self,List.getElem_cons_zero,ho1]
      exact⟨upd_same _ _ _,rfl⟩)
     have hofl:ofL (obs++[.row e sz [] .no]) objs.length=some (.row e sz [] .no):=by
      simp only[ofL]
      rw[List.getElem?_append_right (by omega)]
      simp[ho1]
     refine⟨S1,_,hmem,⟨fun b o hS=>⟨m1.sS b o hS,m1.kS b o hS⟩,fun r hr=>?_,fun r hr=>?_⟩,?_,?_⟩
     ·have hlt:r<objs.length:=by
       refine Nat.lt_of_not_le fun hge=>hr ?_
       simp[ofL,hge]
      obtain⟨q1,q2⟩:=htr r hlt (by simp[ofL,hlt])
      have e1:sel (List.range objs.length++[st.ob.length + objs.length]) (upd φ1 (st.ob.length + objs.length) none) r=φ1 r:=by
       simp only[sel]
       rw[List.getElem?_append_left (by simpa using hlt)]
       simp[hlt,AP _ _ _ _ (hne r hlt)]
      have e2:ofL (obs++[.row e sz [] .no]) r=obf st.ob r:=by
       rw[hob r hlt]
       simp only[ofL]
       rw[List.getElem?_append_left (by omega)]
      unfold RefOK at q2 ⊢
      rw[e1,e2]
      exact q2
     ·have hlt:r<objs.length:=by
       refine Nat.lt_of_not_le fun hge=>hr ?_
       simp[ofL,hge]
      simp only[ofL]
      rw[List.getElem?_append_left (by omega)]
      simp[ho1,hlt]
     ·refine .own _ 0 _ 0 0 none rfl rfl (fun e' sz' es' f' hx=>?_) fun cs hx=>?_
      ·rw[hofl] at hx
       simp only[X24,OB.row.injEq] at hx
       obtain⟨rfl,rfl,rfl,rfl⟩:=hx
       refine⟨Nat.le_refl _,fun _=>.inl ⟨?_,rfl,_,rfl⟩⟩
       simp only[sel]
       rw[List.getElem?_append_right (by simp)]
       simp
      rw[hofl] at hx;simp at hx
     intro q hq
     have:q=objs.length:=by simpa[AV.refs] using hq
     rw[this,hofl]
     simp
    obtain⟨x',nw,wr,S',hK,m1,k1,hx1,hw1,hr⟩:=QW hR.mem (FrzExt.refl _) hv.1 hv.2 h1
    refine⟨u,hrun,?_⟩
    rcases hr with ⟨rfl,r1,r2,r3⟩|⟨r,rfl,hge,hwr,hxx,hxr⟩
    ·obtain⟨rfl,rfl⟩:=hK
     have hO :∀r,r<objs.length->ofL obs r=Ai (obf st.ob) wr r:=fun r hr=>by
      rw[hoff hw1 hr]
      have:=(ho2 r (by omega)).1
      simp only[obf,this,ofL]
      simp[show r<obs.length by omega]
     refine fin m1 (fun r hr=>hoff hw1 hr) List.nodup_range (by simp[ho1]) (fun i hi hi'=>?_) hrange k1.k (L0 r1 r3 hrange hO) fun r hr=>?_
     ·simp only[List.length_range] at hi
      simp only[List.getElem_range]
      rw[hoff hw1 hi]
      exact ho2 i hi'
     rw[hO r (r3 r hr),hoff hw1 (r3 r hr)]
     exact r2 r hr
    simp only[Ar] at hK
    obtain⟨o,ho,hK⟩:=hK
    obtain⟨hcc,rfl,rfl⟩:BE o=true/\x'=res/\obs++[o]=objs':=by
     cases o with
     | box cs=>simpa only[G8] using hK
     | row e sz es f=>exact (AH _ _).1 hK
     | map k e es=>exact⟨rfl,hK⟩
     | amap=>exact hK.elim
     | gone=>exact hK.elim
    have hsel:sel (List.range objs.length++[r]) φ1 objs.length=φ1 r:=by
     simp only[sel]
     rw[List.getElem?_append_right (by simp)]
     simp
    have hofl:ofL (obs++[o]) objs.length=some o:=by
     simp only[ofL]
     rw[List.getElem?_append_right (by omega)]
     simp[ho1]
    have ho':Ai (obf st.ob) wr r=some o:=(EL _ _ _ hwr).trans ho
    have hidx:(List.range objs.length++[r]).Nodup:=by
     rw[List.nodup_append]
     exact⟨List.nodup_range,by simp,fun a ha b hb=>by simp at ha hb;omega⟩
    refine fin m1 (fun r hr=>hoff hw1 hr) hidx (by simp[ho1]) (fun i hi hi'=>?_) (fun q hq=>?_) k1.k ?_ fun q hq=>?_
    ·simp only[X11,List.length_range,X22] at hi
     by_cases hlt:i<objs.length
     ·rw[List.getElem_append_left (by simpa using hlt),List.getElem_append_left (by omega)]
      simp only[List.getElem_range]
      rw[hoff hw1 hlt]
      exact ho2 i (by omega)
     have:i=objs.length:=by omega
     subst this
     rw[List.getElem_append_right (by simp),List.getElem_append_right (by omega)]
     simp only[List.length_range,Nat.sub_self,List.getElem_cons_zero,ho1]
     exact⟨ho',hcc⟩
    ·rw[List.getElem?_append_left (by simpa using hq)]
     exact hrange q hq
    ·exact hxx _ _ hsel (hofl.trans ho'.symm)
    rw[hxr q hq,hofl]
    simp
   ·
    rename_i hno
    obtain⟨xs',wr,S',hK,m1,k1,hx1,hw1,hr⟩:=N3 hR.mem (FrzExt.refl _) h3 h1
    obtain⟨rfl,rfl⟩:=hK
    have hlen :∀{α β:Type} {l:List α} {k:List β} {R:α->β->Prop},All2 R l k->l.length=k.length:=by
     intro α β l k R h
     induction h with
     | nil=>rfl
     | cons _ _ ih=>simp[ih]
    have hget :∀{l:List AV} {k:List Value} {R:AV->Value->Prop},All2 R l k->∀i (hi:i<l.length),∃v,k[i]?=some v/\R l[i] v:=by
     intro l k R h
     induction h with
     | nil=>intro i hi;simp at hi
     | cons h _ ih=>
      intro i hi
      cases i with
      | zero=>exact⟨_,rfl,h⟩
      | succ i=>exact ih i (by simpa using hi)
    have hus:us.length≠1:=by
     intro he
     have:=hlen h3
     match asz,this with
     | [x],_=>exact hno x rfl
     | [],h=>simp at h;omega
     | _::_::_,h=>simp at h;omega
    have hval:Yt us=.tuple us.toArray:=by
     match us,hus with
     | [],_=>rfl
     | [_],h=>exact absurd rfl h
     | _::_::_,_=>rfl
    rw[hval] at hrun
    refine⟨_,hrun,?_⟩
    have hO :∀r,r<objs.length->ofL obs r=Ai (obf st.ob) wr r:=fun r hr=>by
     rw[hoff hw1 hr]
     have:=(ho2 r (by omega)).1
     simp only[obf,this,ofL]
     simp[show r<obs.length by omega]
    refine fin m1 (fun r hr=>hoff hw1 hr) List.nodup_range (by simp[ho1]) (fun i hi hi'=>?_) hrange k1.k ?_ fun r hr'=>?_
    ·simp only[List.length_range] at hi
     simp only[List.getElem_range]
     rw[hoff hw1 hi]
     exact ho2 i hi'
    ·refine .tup xs' _ (fun i=>us.getD i undef) (by simp[hlen hr]) (fun i hi=>?_) fun i hi=>?_
     ·obtain⟨v,q1,_⟩:=hget hr i hi
      simp[q1]
     obtain⟨v,q1,q2,q3,q4⟩:=hget hr i hi
     simp only[List.getD_eq_getElem?_getD,q1,Option.getD_some]
     exact L0 q2 q4 hrange hO
    obtain⟨c,hc1,hc2⟩:=AV.refs_mem' xs' r (by simpa[AV.refs] using hr')
    obtain⟨j,hj,rfl⟩:=List.getElem_of_mem hc1
    obtain⟨v,q1,q2,q3,q4⟩:=hget hr j hj
    rw[hO r (q4 r hc2),hoff hw1 (q4 r hc2)]
    exact q3 r hc2
def Tv (φ:Nat->Option (Nat×Rp)) (ob:Nat->Option OB):Nat->Prop:=fun b=>∃r c,ob r≠none/\φ r=some (b,c)
theorem Mem.here {E:Env} {w:World} {S:Sc} {φ:Nat->Option (Nat×Rp)} {ob:Nat->Option OB} (m:Mem E w S φ ob) :
  Mem ⟨w,S,Tv φ ob,E.wl,E.gb,m.glob fun _ h=>h⟩ w S φ ob:=
 ⟨m.obj,m.inj,m.men,fun _ _ h=>h,fun _ _ _=>rfl,m.bS,fun _ _ h _ _=>h,fun _ _ _=>rfl,Nat.le_refl _,fun r b c h1 h2=>⟨(m.ow r b c h1 h2).1,.inr ⟨r,c,h1,h2⟩⟩,⟨rfl,rfl,rfl,.inr (Nat.le_refl _)⟩⟩
theorem Mem.trans {E:Env} {w w':World} {S S':Sc} {φ φ':Nat->Option (Nat×Rp)} {ob ob':Nat->Option OB} (m:Mem E w S φ ob) {hg:GlobOK E.wl E.gb (Tv φ ob) S w} (m':Mem ⟨w,S,Tv φ ob,E.wl,E.gb,hg⟩ w' S' φ' ob') :
  Mem E w' S' φ' ob':=by
 have hnb :∀b,b<E.w0.heap.size->¬ E.PB b->¬ Tv φ ob b:=by
  rintro b h1 h2 ⟨r,c,h3,h4⟩
  rcases (m.ow r b c h3 h4).2 with h | h
  ·omega
  exact h2 h
 refine⟨m'.obj,m'.inj,m'.men,fun b o h=>m'.sS b o (m.sS b o h),fun b o h=>(m'.kS b o (m.sS b o h)).trans (m.kS b o h),m'.bS,fun b o h h1 h2=>?_,fun b h1 h2=>?_,Nat.le_trans m.sz m'.sz,fun r b c h1 h2=>?_,?_⟩
 ·exact m.nS b o (m'.nS b o h (Nat.lt_of_lt_of_le h1 m.sz) (hnb b h1 h2)) h1 h2
 ·exact (m'.fr b (Nat.lt_of_lt_of_le h1 m.sz) (hnb b h1 h2)).trans (m.fr b h1 h2)
 ·obtain⟨h3,h4⟩:=m'.ow r b c h1 h2
  refine⟨h3,?_⟩
  rcases h4 with h4 | ⟨r',c',h5,h6⟩
  ·exact .inl (Nat.le_trans m.sz h4)
  exact (m.ow r' b c' h5 h6).2
 obtain⟨a1,a2,a3,a4⟩:=m.os
 obtain⟨b1,b2,b3,b4⟩:=m'.os
 refine⟨b1.trans a1,b2.trans a2,b3.trans a3,?_⟩
 rcases a4 with a4 | a4
 ·exact .inl a4
 rcases b4 with b4 | b4
 ·exact .inl b4
 exact .inr (Nat.le_trans a4 b4)
theorem G0 :∀{ob:List (Option OB)} {n:Nat},HY ob n=true->∀r,n<=r->ob.getD r none=none
 | [],_,_,r,_=>by simp
 | _::l,n + 1,h,r + 1,hr=>by simpa using G0 (ob:=l) (n:=n) (by simpa[HY] using h) r (by omega)
 | none::l,0,h,0,_=>by simp
 | none::l,0,h,r + 1,_=>by simpa using G0 (ob:=l) (n:=0) (by simpa[HY] using h) r (by omega)
 | some _::_,0,h,_,_=>by simp[HY] at h
theorem All2.getA {R:AV->Value->Prop} :∀{l:List AV} {k:List Value},All2 R l k->l.length=k.length/\∀i (hi:i<l.length),R l[i] (k.getD i undef)
 | _,_,.nil=>⟨rfl,fun i hi=>by simp at hi⟩
 | _,_,.cons h t=>by
  obtain⟨a,b⟩:=All2.getA t
  refine⟨by simp[a],fun i hi=>?_⟩
  cases i with
  | zero=>simpa using h
  | succ i=>simpa using b i (by simpa using hi)
theorem V8 {wl : WL} {cx : Cx} (hT : TabOk P cx.T) (hC : OU wl P cx) (hD : Sz wl P cx) {f : FuncId} {fn : Func} (hf : P.funcs[f]? = some fn) (hname : fn.name ≠ "runtime.NumGoroutine")
  {args:List AV} {ob:List (Option OB)} {K:AV->List (Option OB)->Prop} (h:ax cx fn args ob K):InlOK wl P f args ob K:=by
 obtain⟨hno,h⟩:=h
 cases hb:fn.body with
 | none=>simp[hb] at h
 | some c=>
  simp only[hb] at h
  refine⟨⟨fn,hf,hname,by rw[hb];rfl⟩,fun E hE w S φ vals hargs m=>?_⟩
  subst hE
  obtain⟨hlen,hargs⟩:=hargs.getA
  have hsz:vals.size=args.length:=by simpa using hlen.symm
  have m0:=m.here
  refine calls_of_wp hf hb (OR (E:=⟨w,S,Tv φ (fun r=>ob.getD r none),E.wl,E.gb,m.glob fun _ h=>h⟩) (tr:=⟨cx.np,φ,fun r=>ob.getD r none⟩) hT hC hD rfl c h ⟨S,φ,⟨?_,fun i hi=>?_,rfl,m0⟩,fun r hr h0=>⟨h0,.refl _ _ _⟩⟩ ?_)
  ·simp[hsz]
  ·simp only[List.getElem_append]
   split
   ·rename_i hlt
    have:=hargs i hlt
    have e:(vals++Array.replicate (fn.ntmps - vals.size) undef).getD i undef=vals.toList.getD i undef:=by
     have:i<vals.size:=by omega
     simp[Array.getElem?_append_left this]
    rw[e];exact this
   rw[List.getElem_replicate]
   exact⟨.dead _,FT _⟩
  intro e st a w' hl hR
  obtain⟨S1,φ1,hR,htr⟩:=hR
  have hne :∀id,e≠.exit id:=fun id he=>by subst he;exact hl
  have hl':SU cx st fn.results.toList (fun asz=>(match asz with
   | [a]=>K a st.ob
   | asz=>K (.tup asz) st.ob)):=by
   cases e with
   | exit id=>exact absurd rfl (hne id)
   | normal=>exact hl
   | ret=>exact hl
  obtain⟨asz,us,h1,h2,h3⟩:=I2 hT hR hl'
  have hrun:=N8 h2
  have hrep :∃r,K r st.ob/\RepA S1 w' φ1 (obf st.ob) r (Yt us)/\Closed (obf st.ob) r:=by
   have tupl :∀{asz:List AV} {us:List Value},All2 (fun x v=>RepA S1 w' φ1 (obf st.ob) x v/\Closed (obf st.ob) x) asz us->RepA S1 w' φ1 (obf st.ob) (.tup asz) (.tuple us.toArray)/\Closed (obf st.ob) (.tup asz):=by
    intro asz us h
    obtain⟨q1,q2⟩:=h.getA
    refine⟨.tup asz us.toArray (fun i=>us.getD i undef) (by simp[q1]) (fun i hi=>?_) fun i hi=>(q2 i hi).1,fun r hr=>?_⟩
    ·have:i<us.length:=by omega
     simp[this]
    obtain⟨c,hc1,hc2⟩:=AV.refs_mem' asz r (by simpa[AV.refs] using hr)
    obtain⟨j,hj,rfl⟩:=List.getElem_of_mem hc1
    exact (q2 j hj).2 r hc2
   split at h1
   ·cases h3 with | cons hv hrest=>
    cases hrest
    exact⟨_,h1,hv.1,hv.2⟩
   rename_i hn
   obtain⟨q1,q2⟩:=tupl h3
   refine⟨_,h1,?_,q2⟩
   match asz,us,h3,hn with
   | [],[],_,_=>exact q1
   | [_],[_],_,hn=>exact absurd rfl (hn _)
   | _::_::_,_::_::_,_,_=>exact q1
  obtain⟨r,g1,g2,g3⟩:=hrep
  have hK:Kept w S φ (fun r=>ob.getD r none) w' S1 φ1 (obf st.ob):=by
   refine⟨fun b o hS=>⟨hR.mem.sS b o hS,hR.mem.kS b o hS⟩,fun r hr=>?_,fun r hr=>?_⟩
   ·refine (htr r (Nat.lt_of_not_le fun hge=>hr (G0 hno r hge)) hr).2
   exact (htr r (Nat.lt_of_not_le fun hge=>hr (G0 hno r hge)) hr).1
  have:a.defers=[]/\∃v,(results fn a.tmps).run P w'=.ok v w'/\∃v',Ending.returned v=.returned v'/\∃S' φ' r ob',K r ob'/\Mem E w' S' φ' (fun r=>ob'.getD r none)/\Kept w S φ (fun r=>ob.getD r none) w' S' φ' (fun r=>ob'.getD r none)/\
    RepA S' w' φ' (fun r=>ob'.getD r none) r v'/\Closed (fun r=>ob'.getD r none) r:=
   ⟨hR.df,_,hrun,_,rfl,S1,φ1,r,st.ob,g1,m.trans hR.mem,hK,g2,g3⟩
  cases e with
  | exit id=>exact absurd rfl (hne id)
  | normal=>exact this
  | ret=>exact this
end
end Go.AX
end
section
namespace Go.AX
def Agree (rs:List Nat) (ob ob':List (Option OB)):Prop:=∀r ∈ rs,ob'[r]?=ob[r]?
theorem Agree.mono {rs rs':List Nat} {ob ob':List (Option OB)} (h:Agree rs ob ob') (hs :∀r ∈ rs',r ∈ rs):Agree rs' ob ob':=fun r hr=>h r (hs r hr)
theorem B1 {ob:List (Option OB)} {r:Nat} {K:OB->Prop} (h:C7 ob r K) :∃o,K o/\∀ob':List (Option OB),ob'[r]?=ob[r]?->∀K':OB->Prop,K' o->C7 ob' r K':=by
 rw[Ar] at h
 obtain⟨o,ho,h⟩:=h
 refine⟨o,h,fun ob' ha K' hK=>(Ar _ _ _).2 ⟨o,?_,hK⟩⟩
 rw[List.getD_eq_getElem?_getD] at ho ⊢
 rw[ha];exact ho
theorem Ju {ob ob':List (Option OB)} {r:Nat} {P Q:Prop} (h:noO ob r P) (ha:ob'[r]?=ob[r]?) (hq:Q):noO ob' r Q:=by
 rw[B2] at h ⊢
 exact⟨ha.trans h.1,hq⟩
theorem Gx {a:AV} {K:AV->Prop} (h:a.force K) :∃v,K v/\∀K':AV->Prop,K' v->a.force K':=⟨a,(CB _ _).1 h,fun K' hK=>(CB _ _).2 hK⟩
theorem aT {T:TT} {op:BinOp} {t:Nat} {x y:AV} {K:AV->Prop} (h:X9 T op t x y K) :∃v,K v/\∀K':AV->Prop,K' v->X9 T op t x y K':=by
 simp only[WX] at h ⊢
 unfold Wg at h ⊢
 split at h
 ·obtain⟨h1,r,h2,h3⟩:=h;exact⟨_,h3,fun K' hK=>⟨h1,r,h2,hK⟩⟩
 ·obtain⟨h1,r,h2,h3⟩:=h;exact⟨_,h3,fun K' hK=>⟨h1,r,h2,hK⟩⟩
 ·exact⟨_,h,fun K' hK=>hK⟩
 ·exact⟨_,h,fun K' hK=>hK⟩
 ·exact⟨_,h.2,fun K' hK=>⟨h.1,hK⟩⟩
 ·exact⟨_,h,fun K' hK=>hK⟩
 ·exact⟨_,h,fun K' hK=>hK⟩
 ·rw[AH] at h
  obtain⟨h0,h⟩:=h
  cases op<;>simp only at h
  case add=>obtain⟨r,h2,h3⟩:=h;exact⟨_,h3,fun K' hK=>(AH _ _).2 ⟨h0,r,h2,hK⟩⟩
  case sub=>obtain⟨r,h2,h3⟩:=h;exact⟨_,h3,fun K' hK=>(AH _ _).2 ⟨h0,r,h2,hK⟩⟩
  case mul=>obtain⟨r,h2,h3⟩:=h;exact⟨_,h3,fun K' hK=>(AH _ _).2 ⟨h0,r,h2,hK⟩⟩
  case quo=>obtain⟨h1,r,h2,h3⟩:=h;exact⟨_,h3,fun K' hK=>(AH _ _).2 ⟨h0,h1,r,h2,hK⟩⟩
  case rem=>obtain⟨h1,r,h2,h3⟩:=h;exact⟨_,h3,fun K' hK=>(AH _ _).2 ⟨h0,h1,r,h2,hK⟩⟩
  case and=>obtain⟨r,h2,h3⟩:=h;exact⟨_,h3,fun K' hK=>(AH _ _).2 ⟨h0,r,h2,hK⟩⟩
  case or=>obtain⟨r,h2,h3⟩:=h;exact⟨_,h3,fun K' hK=>(AH _ _).2 ⟨h0,r,h2,hK⟩⟩
  case xor=>obtain⟨r,h2,h3⟩:=h;exact⟨_,h3,fun K' hK=>(AH _ _).2 ⟨h0,r,h2,hK⟩⟩
  case andNot=>obtain⟨r,h2,h3⟩:=h;exact⟨_,h3,fun K' hK=>(AH _ _).2 ⟨h0,r,h2,hK⟩⟩
  case eql=>exact⟨_,h,fun K' hK=>(AH _ _).2 ⟨h0,hK⟩⟩
  case neq=>exact⟨_,h,fun K' hK=>(AH _ _).2 ⟨h0,hK⟩⟩
  case lss=>exact⟨_,h,fun K' hK=>(AH _ _).2 ⟨h0,hK⟩⟩
  case leq=>exact⟨_,h,fun K' hK=>(AH _ _).2 ⟨h0,hK⟩⟩
  case gtr=>exact⟨_,h,fun K' hK=>(AH _ _).2 ⟨h0,hK⟩⟩
  case geq=>exact⟨_,h,fun K' hK=>(AH _ _).2 ⟨h0,hK⟩⟩
  all_goals exact h.elim
 ·split at h
  ·exact⟨_,h,fun K' hK=>hK⟩
  exact h.elim
 ·split at h
  ·exact⟨_,h,fun K' hK=>hK⟩
  exact h.elim
 exact h.elim
theorem bz {op:UnOp} {x:AV} {K:AV->Prop} (h:unK op x K) :∃v,K v/\∀K':AV->Prop,K' v->unK op x K':=by
 unfold unK at h ⊢
 split at h
 ·exact⟨_,h,fun K' hK=>hK⟩
 ·obtain⟨r,h2,h3⟩:=h;exact⟨_,h3,fun K' hK=>⟨r,h2,hK⟩⟩
 exact h.elim
theorem Zf {c a b:AV} {K:AV->Prop} (h:Ux c a b K) :∃v,K v/\∀K':AV->Prop,K' v->Ux c a b K':=by
 unfold Ux at h ⊢
 split at h
 ·split at h
  ·exact⟨_,h,fun K' hK=>hK⟩
  rename_i t _ _ hne
  cases t with
  | true=>obtain⟨v,h1,h2⟩:=Gx h;exact⟨v,h1,fun K' hK=>h2 K' hK⟩
  | false=>obtain⟨v,h1,h2⟩:=Gx h;exact⟨v,h1,fun K' hK=>h2 K' hK⟩
 exact h.elim
theorem LF {T:TT} {t n i k:Nat} {es:List D} {K:AV->Prop} (h:IG T t n i k es K) :∃v,K v/\∀K':AV->Prop,K' v->IG T t n i k es K':=by
 unfold IG at h ⊢
 simp only[Dl] at h
 obtain⟨hn,x,hx,h⟩:=h
 cases hcl:(T.get t).kind.cls with
 | none=>simp[hcl] at h
 | some q=>
  cases q with
  | true=>
   simp only[hcl,AH,C6] at h
   exact⟨_,h.2,fun K' hK=>⟨hn,x,hx,by simp only[Dl,AH,C6];exact⟨h.1,hK⟩⟩⟩
  | false=>
   simp only[hcl] at h
   cases hg:(x.cells.drop k)[0]? with
   | none=>simp[hg] at h
   | some y=>
    simp only[hg] at h
    exact⟨_,h,fun K' hK=>⟨hn,x,hx,by simp only[Dl,hg];exact hK⟩⟩
theorem aD {T:TT} {t:Nat} {a:AV} {ob:List (Option OB)} {K:AV->Prop} (h:QE T t a ob K) :
  ∃v,K v/\∀ob',Agree a.refs ob ob'->∀K':AV->Prop,K' v->QE T t a ob' K':=by
 cases a<;>simp only[QE] at h ⊢
 case ref r off=>
  obtain⟨o,h,ho⟩:=B1 h
  cases o with
  | row=>exact h.elim
  | map=>exact h.elim
  | amap=>exact h.elim
  | gone=>exact h.elim
  | box cs=>
   simp only at h
   cases hcl:(T.get t).kind.cls with
   | none=>simp[hcl] at h
   | some q=>
    cases q with
    | true=>
     simp only[hcl,Dl,AH,C6,EC] at h
     exact⟨_,h.2,fun ob' ha K' hK=>ho ob' (ha r (by simp[AV.refs])) _ (by simp only[Dl,AH,C6,EC];exact⟨h.1,hK⟩)⟩
    | false=>
     simp only[hcl] at h
     cases hg:cs[off]? with
     | none=>simp[hg] at h
     | some x=>
      simp only[hg] at h
      obtain⟨v,h1,h2⟩:=Gx h
      exact⟨v,h1,fun ob' ha K' hK=>ho ob' (ha r (by simp[AV.refs])) _ (by simp only[hg];exact h2 K' hK)⟩
 case eref cs=>
  cases hcl:(T.get t).kind.cls with
  | none=>simp[hcl] at h
  | some q=>
   cases q with
   | true=>
    simp only[hcl,AH,C6] at h
    exact⟨_,h.2,fun ob' _ K' hK=>by simp only[AH,C6];exact⟨h.1,hK⟩⟩
   | false=>
    simp only[hcl] at h
    cases hg:cs[0]? with
    | none=>simp[hg] at h
    | some x=>
     simp only[hg] at h
     exact⟨_,h,fun ob' _ K' hK=>hK⟩
 case rref r n i k=>
  obtain⟨o,h,ho⟩:=B1 h
  cases o with
  | box cs=>
   simp only at h
   cases hcl:(T.get t).kind.cls with
   | none=>simp[hcl] at h
   | some q=>
    cases q with
    | true=>simp[hcl] at h
    | false=>
     simp only[hcl,CB] at h
     obtain⟨x,hg,h⟩:=h
     exact⟨_,h,fun ob' ha K' hK=>ho ob' (ha r (by simp[AV.refs])) _ ⟨x,hg,(CB _ _).2 hK⟩⟩
  | map=>exact h.elim
  | amap=>exact h.elim
  | gone=>exact h.elim
  | row e sz es frz=>
   cases frz with
   | no=>
    obtain⟨v,h1,h2⟩:=LF h
    exact⟨v,h1,fun ob' ha K' hK=>ho ob' (ha r (by simp[AV.refs])) _ (h2 K' hK)⟩
   | yes=>
    obtain⟨v,h1,h2⟩:=LF h
    exact⟨v,h1,fun ob' ha K' hK=>ho ob' (ha r (by simp[AV.refs])) _ (h2 K' hK)⟩
   | lk i' j' q m=>
    rcases h with h | ⟨g1,g2,g3,g4,g5,g6,h⟩
    ·obtain⟨v,h1,h2⟩:=LF h
     exact⟨v,h1,fun ob' ha K' hK=>ho ob' (ha r (by simp[AV.refs])) _ (.inl (h2 K' hK))⟩
    exact⟨_,h,fun ob' ha K' hK=>ho ob' (ha r (by simp[AV.refs])) _ (.inr ⟨g1,g2,g3,g4,g5,g6,hK⟩)⟩
theorem Lj {ob:List (Option OB)} {a:AV} {K:D->W->Prop} (h:toD ob a K) :
  ∃x w,K x w/\(∀q ∈ w,q.1 ∈ a.refs)/\∀ob',Agree a.refs ob ob'->∀K':D->W->Prop,K' x w->toD ob' a K':=by
 cases a<;>simp only[toD] at h ⊢
 case d x=>exact⟨_,_,(D4 _ _).1 h,fun q hq=>by simp at hq,fun ob' _ K' hK=>(D4 _ _).2 hK⟩
 case own r n=>
  obtain⟨o,h,ho⟩:=B1 h
  cases o with
  | box=>exact h.elim
  | map=>exact h.elim
  | amap=>exact h.elim
  | gone=>exact h.elim
  | row e sz es f=>exact⟨_,_,h.2,fun q hq=>by simp only[X14] at hq;simp[hq,AV.refs],fun ob' ha K' hK=>ho ob' (ha r (by simp[AV.refs])) _ ⟨h.1,hK⟩⟩
 case agg cs=>
  have key :∀(cs:List AV) (K:List D->W->Prop),toD.toDs ob cs K->∃l w,K l w/\(∀q ∈ w,q.1 ∈ AV.refs.refsL cs)/\∀ob',Agree (AV.refs.refsL cs) ob ob'->∀K':List D->W->Prop,K' l w->toD.toDs ob' cs K':=by
   intro cs
   induction cs with
   | nil=>intro K h;exact⟨_,_,h,fun q hq=>by simp at hq,fun ob' _ K' hK=>hK⟩
   | cons c cs ih=>
    intro K h
    cases c<;>simp only[toD.toDs] at h ⊢
    case d x=>
     cases x with
     | agg=>exact h.elim
     | val u=>obtain⟨l,w,h1,hq,h2⟩:=ih _ h;exact⟨_,w,h1,fun q hm=>by simp[AV.refs.refsL,hq q hm],fun ob' ha K' hK=>h2 ob' (ha.mono fun r hr=>by simp[AV.refs.refsL,hr]) _ hK⟩
     | nil sz=>obtain⟨l,w,h1,hq,h2⟩:=ih _ h;exact⟨_,w,h1,fun q hm=>by simp[AV.refs.refsL,hq q hm],fun ob' ha K' hK=>h2 ob' (ha.mono fun r hr=>by simp[AV.refs.refsL,hr]) _ hK⟩
     | lst sz es=>obtain⟨l,w,h1,hq,h2⟩:=ih _ h;exact⟨_,w,h1,fun q hm=>by simp[AV.refs.refsL,hq q hm],fun ob' ha K' hK=>h2 ob' (ha.mono fun r hr=>by simp[AV.refs.refsL,hr]) _ hK⟩
    case fn g caps=>
     cases caps with
     | cons=>exact h.elim
     | nil=>obtain⟨l,w,h1,hq,h2⟩:=ih _ h;exact⟨_,w,h1,fun q hm=>by simp[AV.refs.refsL,hq q hm],fun ob' ha K' hK=>h2 ob' (ha.mono fun r hr=>by simp[AV.refs.refsL,hr]) _ hK⟩
    case own r n=>
     obtain⟨o,h,ho⟩:=B1 h
     cases o with
     | box=>exact h.elim
     | map=>exact h.elim
     | amap=>exact h.elim
     | gone=>exact h.elim
     | row e sz es f=>
      obtain⟨hn,h⟩:=h
      obtain⟨l,w,h1,hq,h2⟩:=ih _ h
      refine⟨_,_,h1,fun q hm=>?_,fun ob' ha K' hK=>ho ob' (ha r (by simp[AV.refs.refsL,AV.refs])) _ ⟨hn,h2 ob' (ha.mono fun r hr=>by simp[AV.refs.refsL,hr]) _ hK⟩⟩
      simp only[List.mem_cons] at hm
      rcases hm with hm | hm
      ·simp[hm,AV.refs.refsL,AV.refs]
      simp[AV.refs.refsL,hq q hm]
  obtain⟨l,w,h1,hq,h2⟩:=key cs _ h
  exact⟨_,w,h1,hq,fun ob' ha K' hK=>h2 ob' ha _ hK⟩
theorem Jq {y x:D} {k:Nat} {K:D->Prop} (h:E3 y k x K) :∃z,K z/\∀K':D->Prop,K' z->E3 y k x K':=by
 unfold E3 at h ⊢
 simp only[D4,Ey] at h ⊢
 obtain⟨h0,h⟩:=h
 split at h
 ·exact⟨_,h,fun K' hK=>⟨h0,hK⟩⟩
 split at h
 ·rw[AH] at h
  exact⟨_,h.2,fun K' hK=>⟨h0,(AH _ _).2 ⟨h.1,hK⟩⟩⟩
 exact h.elim
theorem YR {T:TT} {t:Nat} {a x:AV} {ob:List (Option OB)} {K:AV->W->Prop} (h:K1 T t a x ob K) :
  ∃v w,K v w/\(∀q ∈ w,q.1 ∈ a.refs)/\∀ob',Agree a.refs ob ob'->∀K':AV->W->Prop,K' v w->K1 T t a x ob' K':=by
 unfold K1 at h ⊢
 rw[AH] at h
 obtain⟨h0,h⟩:=h
 split at h
 ·rename_i r off
  obtain⟨o,h,ho⟩:=B1 h
  cases o with
  | row=>exact h.elim
  | map=>exact h.elim
  | amap=>exact h.elim
  | gone=>exact h.elim
  | box cs=>
   simp only[Ef,AH,Ey] at h
   obtain⟨l,hl,hsz,hle,h⟩:=h
   exact⟨_,_,h,fun q hq=>by simp only[X14] at hq;simp[hq,AV.refs],fun ob' ha K' hK=>(AH _ _).2 ⟨h0,ho ob' (ha r (by simp[AV.refs])) _ (by simp only[Ef,AH,Ey];exact⟨l,hl,hsz,hle,hK⟩)⟩⟩
 ·rename_i r n i k
  obtain⟨o,h,ho⟩:=B1 h
  cases o with
  | box=>exact h.elim
  | map=>exact h.elim
  | amap=>exact h.elim
  | gone=>exact h.elim
  | row e sz es f=>
   simp only at h
   obtain⟨hn,hf,h⟩:=h
   cases x<;>simp only at h
   case d x=>
    rw[AH] at h
    obtain⟨hsz,y,hy,h⟩:=h
    obtain⟨z,⟨zs,hzs,h⟩,hz⟩:=Jq h
    exact⟨_,_,h,fun q hq=>by simp only[X14] at hq;simp[hq,AV.refs],fun ob' ha K' hK=>(AH _ _).2 ⟨h0,ho ob' (ha r (by simp[AV.refs])) _ ⟨hn,hf,(AH _ _).2 ⟨hsz,y,hy,hz _ ⟨zs,hzs,hK⟩⟩⟩⟩⟩
 exact h.elim
theorem S4 {T:TT} {t r n i k q m:Nat} {ob:List (Option OB)} {K:AV->W->Prop} (h:En T t r n i k q m ob K) :
  ∃v w,K v w/\(∀p ∈ w,p.1 ∈ [r,q])/\∀ob',Agree [r,q] ob ob'->∀K':AV->W->Prop,K' v w->En T t r n i k q m ob' K':=by
 unfold En at h ⊢
 rw[AH] at h
 obtain⟨h0,h⟩:=h
 obtain⟨d,w,h,hq,hd⟩:=Lj h
 rw[AH] at h
 obtain⟨h1,h⟩:=h
 obtain⟨o,h,ho⟩:=B1 h
 cases o with
 | box=>exact h.elim
 | map=>exact h.elim
 | amap=>exact h.elim
 | gone=>exact h.elim
 | row e sz es f=>
  simp only[AH] at h
  obtain⟨hn,hf,hsz,y,hy,h⟩:=h
  obtain⟨z,⟨zs,hzs,h⟩,hz⟩:=Jq h
  refine⟨_,_,h,fun p hp=>?_,fun ob' ha K' hK=>(AH _ _).2 ⟨h0,hd ob' (ha.mono fun x hx=>by simp only[AV.refs,X14] at hx;simp[hx]) _ ((AH _ _).2 ⟨h1,ho ob' (ha r (by simp)) _ ⟨hn,hf,(AH _ _).2 ⟨hsz,y,hy,hz _ ⟨zs,hzs,hK⟩⟩⟩⟩)⟩⟩
  rcases X23.1 hp with hp | hp
  ·have:=hq p hp
   simp only[AV.refs,X14] at this
   simp[this]
  simp only[X14] at hp
  simp[hp]
theorem Ul {T:TT} {t r n i k:Nat} {x:AV} {ob:List (Option OB)} {K:AV->W->Prop} (h:Et T t r n i k x ob K) :
  ∃v w,K v w/\(∀p ∈ w,p.1 ∈ r::x.refs)/\∀ob',Agree (r::x.refs) ob ob'->∀K':AV->W->Prop,K' v w->Et T t r n i k x ob' K':=by
 unfold Et at h ⊢
 rw[AH] at h
 obtain⟨h0,h⟩:=h
 obtain⟨d,w,h,hq,hd⟩:=Lj h
 rw[AH] at h
 obtain⟨h1,h⟩:=h
 obtain⟨o,h,ho⟩:=B1 h
 cases o with
 | box=>exact h.elim
 | map=>exact h.elim
 | amap=>exact h.elim
 | gone=>exact h.elim
 | row e sz es f=>
  simp only[AH] at h
  obtain⟨hn,hf,hsz,y,hy,h⟩:=h
  obtain⟨z,⟨zs,hzs,h⟩,hz⟩:=Jq h
  refine⟨_,_,h,fun p hp=>?_,fun ob' ha K' hK=>(AH _ _).2 ⟨h0,hd ob' (ha.mono fun x hx=>by simp[hx]) _ ((AH _ _).2 ⟨h1,ho ob' (ha r (by simp)) _ ⟨hn,hf,(AH _ _).2 ⟨hsz,y,hy,hz _ ⟨zs,hzs,hK⟩⟩⟩⟩)⟩⟩
  rcases X23.1 hp with hp | hp
  ·exact X19 _ (hq p hp)
  simp only[X14] at hp
  simp[hp]
theorem Ya {T:TT} {t:Nat} {a x:AV} {ob:List (Option OB)} {K:AV->W->Prop} (h:Ix T t a x ob K) :
  ∃v w,K v w/\(∀q ∈ w,q.1 ∈ a.refs++x.refs)/\∀ob',Agree (a.refs++x.refs) ob ob'->∀K':AV->W->Prop,K' v w->Ix T t a x ob' K':=by
 rcases MN h with ⟨r,n,i,k,q,m,rfl,rfl,h⟩|⟨r,n,i,k,cs,rfl,rfl,h⟩|⟨h,hb⟩
 ·obtain⟨v,w,h1,h2,h3⟩:=S4 h
  exact⟨v,w,h1,fun p hp=>by simpa[AV.refs] using h2 p hp,fun ob' ha K' hK=>by
   unfold Ix
   exact h3 ob' (ha.mono fun r hr=>by simpa[AV.refs] using hr) K' hK⟩
 ·obtain⟨v,w,h1,h2,h3⟩:=Ul h
  exact⟨v,w,h1,fun p hp=>by simpa[AV.refs] using h2 p hp,fun ob' ha K' hK=>by
   unfold Ix
   exact h3 ob' (ha.mono fun r hr=>by simpa[AV.refs] using hr) K' hK⟩
 obtain⟨v,w,h1,h2,h3⟩:=YR h
 exact⟨v,w,h1,fun p hp=>X23.2 (.inl (h2 p hp)),fun ob' ha K' hK=>hb ob' K' (h3 ob' (ha.mono fun r hr=>X23.2 (.inl hr)) K' hK)⟩
theorem bN (place:Nat->Option (Nat×Nat)) :∀(ps:List (Nat×AV)) (cs:List AV) {K:List AV->Prop},HH.go place ps cs K->∃l,K l/\∀K':List AV->Prop,K' l->HH.go place ps cs K'
 | [],cs,K,h=>⟨_,h,fun K' hK=>hK⟩
 | (i,v)::ps,cs,K,h=>by
  simp only[HH.go] at h ⊢
  cases hp:place i with
  | none=>simp[hp] at h
  | some q=>
   obtain⟨off,size⟩:=q
   simp only[hp,Ef,AH,Ey] at h ⊢
   obtain⟨l,hl,hsz,hle,h⟩:=h
   obtain⟨l',h1,h2⟩:=bN place ps _ h
   exact⟨l',h1,fun K' hK=>⟨l,hl,hsz,hle,h2 K' hK⟩⟩
theorem Y1 {T:TT} {t:Nat} {ps:List (Nat×AV)} {K:AV->Prop} (h:HH T t ps K) :∃v,K v/\∀K':AV->Prop,K' v->HH T t ps K':=by
 unfold HH at h ⊢
 split at h
 ·obtain⟨l,h1,h2⟩:=bN _ _ _ h
  rw[EC] at h1
  exact⟨_,h1,fun K' hK=>h2 _ ((EC _ _).2 hK)⟩
 ·rw[AH] at h
  obtain⟨h0,h⟩:=h
  obtain⟨l,h1,h2⟩:=bN _ _ _ h
  rw[EC] at h1
  exact⟨_,h1,fun K' hK=>(AH _ _).2 ⟨h0,h2 _ ((EC _ _).2 hK)⟩⟩
 exact h.elim
theorem Wb {ob:List (Option OB)} {sz:Nat} :∀{ps:List (Nat×AV)} {i:Nat} {K:List D->W->Prop},Dm.elems ob sz i ps K->
  ∃l w,K l w/\(∀q ∈ w,q.1 ∈ AV.refs.refsL (ps.map (·.2)))/\∀ob',Agree (AV.refs.refsL (ps.map (·.2))) ob ob'->∀K':List D->W->Prop,K' l w->Dm.elems ob' sz i ps K'
 | [],i,K,h=>⟨_,_,h,fun q hq=>by simp at hq,fun ob' _ K' hK=>hK⟩
 | (j,v)::ps,i,K,h=>by
  simp only[Dm.elems] at h ⊢
  cases hb:Nat.beq i j with
  | false=>simp[hb] at h
  | true=>
   simp only[hb] at h ⊢
   obtain⟨x,w,h,hq1,hx⟩:=Lj h
   rw[AH] at h
   obtain⟨hsz,h⟩:=h
   obtain⟨l,w',h1,hq2,h2⟩:=Wb h
   exact⟨_,_,h1,fun q hm=>by
    simp only[List.map_cons,AV.refs.refsL,X23]
    rcases X23.1 hm with hm | hm
    ·exact .inl (hq1 q hm)
    exact .inr (hq2 q hm),fun ob' ha K' hK=>hx ob' (ha.mono fun r hr=>by simp[AV.refs.refsL,hr]) _ ((AH _ _).2 ⟨hsz,h2 ob' (ha.mono fun r hr=>by simp only[List.map_cons,AV.refs.refsL,X23];exact .inr hr) _ hK⟩)⟩
theorem OI {T:TT} {t len self:Nat} {ps:List (Nat×AV)} {ob:List (Option OB)} {K:AV->W->Prop} (h:Dm T t len self ps ob K) :
  ∃v w,K v w/\(∀q ∈ w,q.1 ∈ self::AV.refs.refsL (ps.map (·.2)))/\∀ob',Agree (self::AV.refs.refsL (ps.map (·.2))) ob ob'->∀K':AV->W->Prop,K' v w->Dm T t len self ps ob' K':=by
 unfold Dm at h ⊢
 split at h
 ·have h0:=h
  rw[B2,AH,AH] at h
  obtain⟨hs,hc,hk,h⟩:=h
  obtain⟨l,w,h1,hq,h2⟩:=Wb h
  rw[AH] at h1
  exact⟨_,_,h1.2,fun q hm=>by
   rcases X23.1 hm with hm | hm
   ·exact X19 _ (hq q hm)
   simp only[X14] at hm;simp[hm],fun ob' ha K' hK=>Ju h0 (ha self (by simp)) ((AH _ _).2 ⟨hc,(AH _ _).2 ⟨hk,h2 ob' (ha.mono fun r hr=>by simp[hr]) _ ((AH _ _).2 ⟨h1.1,hK⟩)⟩⟩)⟩
 exact h.elim
theorem Tz {T:TT} {t len self:Nat} {cs:List AV} {ob:List (Option OB)} {K:AV->W->Prop} (h:G4 T t len self cs ob K) :
  ∃v w,K v w/\(∀q ∈ w,q.1 ∈ [self])/\∀ob',Agree [self] ob ob'->∀K':AV->W->Prop,K' v w->G4 T t len self cs ob' K':=by
 unfold G4 at h ⊢
 split at h
 ·have h0:=h
  rw[B2,AH] at h
  obtain⟨hs,hc,hK⟩:=h
  exact⟨_,_,hK,fun q hm=>by simp only[X14] at hm;simp[hm],fun ob' ha K' hK'=>Ju h0 (ha self (by simp)) ((AH _ _).2 ⟨hc,hK'⟩)⟩
 exact h.elim
theorem S5 {T:TT} {t len self:Nat} {cs:List AV} {ob:List (Option OB)} {K:AV->W->Prop} (h:GE T t len self cs ob K) :
  ∃v w,K v w/\(∀q ∈ w,q.1 ∈ self::(AV.agg cs).refs)/\∀ob',Agree (self::(AV.agg cs).refs) ob ob'->∀K':AV->W->Prop,K' v w->GE T t len self cs ob' K':=by
 unfold GE at h ⊢
 split at h
 ·have h0:=h
  rw[B2,AH] at h
  obtain⟨hs,hc,j,q,m,hj,h⟩:=h
  obtain⟨d,w,h,hq,hd⟩:=Lj h
  rw[AH] at h
  obtain⟨hw,h⟩:=h
  refine⟨_,_,h,fun p hp=>?_,fun ob' ha K' hK=>Ju h0 (ha self (by simp)) ((AH _ _).2 ⟨hc,j,q,m,hj,hd ob' (ha.mono fun r hr=>by simp[hr]) _ ((AH _ _).2 ⟨hw,hK⟩)⟩)⟩
  rcases X23.1 hp with hp | hp
  ·exact X19 _ (hq p hp)
  simp only[X14] at hp;simp[hp]
 exact h.elim
theorem Qm {T:TT} {t len self:Nat} {ps:List (Nat×AV)} {ob:List (Option OB)} {K:AV->W->Prop} (h:FS T t len self ps ob K) :
  ∃v w,K v w/\(∀q ∈ w,q.1 ∈ self::AV.refs.refsL (ps.map (·.2)))/\∀ob',Agree (self::AV.refs.refsL (ps.map (·.2))) ob ob'->∀K':AV->W->Prop,K' v w->FS T t len self ps ob' K':=by
 unfold FS at h ⊢
 split at h
 ·rcases h with h | h
  ·obtain⟨v,w,h1,h2,h3⟩:=OI h
   exact⟨v,w,h1,h2,fun ob' ha K' hK=>.inl (h3 ob' ha K' hK)⟩
  rcases h with h | h
  ·obtain⟨v,w,h1,h2,h3⟩:=Tz h
   exact⟨v,w,h1,fun q hq=>by have:=h2 q hq;simp only[X14] at this;simp[this],fun ob' ha K' hK=>.inr (.inl (h3 ob' (ha.mono fun r hr=>by simp only[X14] at hr;simp[hr]) K' hK))⟩
  obtain⟨v,w,h1,h2,h3⟩:=S5 h
  exact⟨v,w,h1,fun q hq=>by simpa[AV.refs.refsL] using h2 q hq,fun ob' ha K' hK=>.inr (.inr (h3 ob' (ha.mono fun r hr=>by simpa[AV.refs.refsL] using hr) K' hK))⟩
 exact OI h
theorem Zu {ob:List (Option OB)} {y:AV} {K:Nat->List D->Prop} (h:RY ob y K) :∃sz es,K sz es/\∀ob',Agree y.refs ob ob'->∀K':Nat->List D->Prop,K' sz es->RY ob' y K':=by
 unfold RY at h ⊢
 split at h
 ·exact⟨_,_,h,fun ob' _ K' hK=>hK⟩
 ·exact⟨_,_,h,fun ob' _ K' hK=>hK⟩
 ·rename_i r n
  obtain⟨o,h,ho⟩:=B1 h
  cases o with
  | box=>exact h.elim
  | map=>exact h.elim
  | amap=>exact h.elim
  | gone=>exact h.elim
  | row e sz es f=>exact⟨_,_,h.2,fun ob' ha K' hK=>ho ob' (ha r (by simp[AV.refs])) _ ⟨h.1,hK⟩⟩
 exact h.elim
theorem Vi {ob:List (Option OB)} {y:AV} {K:Nat->List D->Prop} (h:TL ob y K) :∃sz es,K sz es/\∀ob',Agree y.refs ob ob'->∀K':Nat->List D->Prop,K' sz es->TL ob' y K':=by
 unfold TL at h ⊢
 split at h
 ·rename_i r a n m
  obtain⟨o,h,ho⟩:=B1 h
  cases o with
  | box=>exact h.elim
  | map=>exact h.elim
  | amap=>exact h.elim
  | gone=>exact h.elim
  | row e sz es f=>
   obtain⟨h1,zs,h2,h⟩:=h
   exact⟨_,_,h,fun ob' ha K' hK=>ho ob' (ha r (by simp[AV.refs])) _ ⟨h1,zs,h2,hK⟩⟩
 exact Zu h
theorem bO {ob:List (Option OB)} {y:AV} {k sz:Nat} {frz:FZ} {K:FZ->Prop} (h:Xu ob y k sz frz K) :
  ∃f,K f/\∀ob',Agree y.refs ob ob'->∀K':FZ->Prop,K' f->Xu ob' y k sz frz K':=by
 unfold Xu at h ⊢
 split at h
 ·exact⟨_,h,fun ob' _ K' hK=>hK⟩
 split at h
 ·rename_i q n
  have e :∀ob',Agree (AV.own q n).refs ob ob'->ob'.getD q none=ob.getD q none:=fun ob' ha=>by
   rw[List.getD_eq_getElem?_getD,List.getD_eq_getElem?_getD,ha q (by simp[AV.refs])]
  split at h
  ·rename_i e0 sz' ys i j q' m hq
   split at h
   ·rename_i hb
    exact⟨_,h.2,fun ob' ha K' hK=>by simp only[e ob' ha,hq,hb];exact⟨h.1,hK⟩⟩
   rename_i hb
   exact⟨_,h,fun ob' ha K' hK=>by simp only[e ob' ha,hq,hb];exact hK⟩
  rename_i hn
  refine⟨_,h,fun ob' ha K' hK=>?_⟩
  rw[e ob' ha]
  split
  ·rename_i hq
   exact absurd hq (hn _ _ _ _ _ _ _)
  exact hK
 exact⟨_,h,fun ob' _ K' hK=>hK⟩
theorem Rj {T:TT} {st self:Nat} {x y:AV} {ob:List (Option OB)} {K:AV->W->Prop} (h:KG T st self x y ob K) :
  ∃v w,K v w/\(∀q ∈ w,q.1 ∈ self::x.refs)/\∀ob',Agree (self::(x.refs++y.refs)) ob ob'->∀K':AV->W->Prop,K' v w->KG T st self x y ob' K':=by
 unfold KG at h ⊢
 split at h
 ·obtain⟨sz',ys,h,hy⟩:=Vi h
  split at h
  ·have h0:=h
   rw[B2,AH,AH] at h
   obtain⟨hs,hc,hk,hb,h⟩:=h
   exact⟨_,_,h,fun q hq=>by simp only[X14] at hq;simp[hq],fun ob' ha K' hK=>hy ob' (ha.mono fun r hr=>by simp[hr]) _ (Ju h0 (ha self (by simp)) ((AH _ _).2 ⟨hc,(AH _ _).2 ⟨hk,hb,hK⟩⟩))⟩
  ·rename_i r n _
   obtain⟨o,h,ho⟩:=B1 h
   cases o with
   | box=>exact h.elim
   | map=>exact h.elim
   | amap=>exact h.elim
   | gone=>exact h.elim
   | row e' sz es f=>
    simp only[AH] at h
    obtain⟨hc,hk,hn,hb,zs,hz,h⟩:=h
    obtain⟨f',h,hf⟩:=bO h
    exact⟨_,_,h,fun q hq=>by simp only[X14] at hq;simp[hq,AV.refs],fun ob' ha K' hK=>hy ob' (ha.mono fun r hr=>by simp[hr]) _ (ho ob' (ha r (by simp[AV.refs])) _ ((AH _ _).2 ⟨hc,(AH _ _).2 ⟨hk,hn,hb,zs,hz,hf ob' (ha.mono fun r hr=>by simp[hr]) _ hK⟩⟩))⟩
  ·rename_i r a n mm _
   obtain⟨o,h,ho⟩:=B1 h
   cases o with
   | box=>exact h.elim
   | map=>exact h.elim
   | amap=>exact h.elim
   | gone=>exact h.elim
   | row e' sz es f=>
    simp only[AH] at h
    obtain⟨hc,hk,h⟩:=h
    have h0:=h
    rw[B2] at h
    obtain⟨hs,h1,h2,h3,h4,zs,hz,h⟩:=h
    exact⟨_,_,h,fun q hq=>by
     simp only[List.mem_cons,List.not_mem_nil,or_false] at hq
     rcases hq with hq | hq<;>simp[hq,AV.refs],fun ob' ha K' hK=>hy ob' (ha.mono fun r hr=>by simp[hr]) _ (ho ob' (ha r (by simp[AV.refs])) _ ((AH _ _).2 ⟨hc,(AH _ _).2 ⟨hk,Ju h0 (ha self (by simp)) ⟨h1,h2,h3,h4,zs,hz,hK⟩⟩⟩))⟩
  exact h.elim
 exact h.elim
theorem ac {T:TT} {t:Nat} {x:AV} {K:AV->Prop} (h:XL T t x K) :∃v,K v/\∀K':AV->Prop,K' v->XL T t x K':=by
 unfold XL at h ⊢
 split at h<;>first | exact⟨_,h,fun K' hK=>hK⟩|exact h.elim
theorem bD {T:TT} {t:Nat} {x:AV} {K:AV->Prop} (h:V7 T t x K) :∃v,K v/\∀K':AV->Prop,K' v->V7 T t x K':=by
 unfold V7 at h ⊢
 split at h<;>first | exact⟨_,h,fun K' hK=>hK⟩|exact h.elim | (obtain⟨n,hn,h⟩:=h;exact⟨_,h,fun K' hK=>⟨n,hn,hK⟩⟩)
theorem aG {T:TT} {t:Nat} {x key:AV} {ok:Bool} {ob:List (Option OB)} {K:AV->Prop} (h:SA T t x key ok ob K) :
  ∃v,K v/\∀ob',Agree x.refs ob ob'->∀K':AV->Prop,K' v->SA T t x key ok ob' K':=by
 unfold SA at h ⊢
 split at h
 ·rename_i k e r kv hk
  rw[AH] at h
  obtain⟨h0,h⟩:=h
  obtain⟨o,h,ho⟩:=B1 h
  cases o with
  | box=>exact h.elim
  | row=>exact h.elim
  | gone=>exact h.elim
  | amap k' e' es kv' r' n'=>
   rcases h with ⟨q,hq,v,hv,b,hb,h⟩|⟨h1,h2,h3,h4,h⟩
   ·exact⟨_,h,fun ob' ha K' hK=>(AH _ _).2 ⟨h0,ho ob' (ha r (by simp[AV.refs])) _ (.inl ⟨q,hq,v,hv,b,hb,hK⟩)⟩⟩
   exact⟨_,h,fun ob' ha K' hK=>(AH _ _).2 ⟨h0,ho ob' (ha r (by simp[AV.refs])) _ (.inr ⟨h1,h2,h3,h4,hK⟩)⟩⟩
  | map k' e' es=>
   simp only at h
   obtain⟨q,hq,v,hv,b,hb,h⟩:=h
   exact⟨_,h,fun ob' ha K' hK=>(AH _ _).2 ⟨h0,ho ob' (ha r (by simp[AV.refs])) _ ⟨q,hq,v,hv,b,hb,hK⟩⟩⟩
 exact h.elim
theorem aH {T:TT} {G:Nat->Option (List (D×D))} {t:Nat} {a:AV} {ob:List (Option OB)} {K:AV->Prop} (h:SI T G t a ob K) :
  ∃v,K v/\∀ob',Agree a.refs ob ob'->∀K':AV->Prop,K' v->SI T G t a ob' K':=by
 unfold SI at h ⊢
 split at h
 ·split at h
  ·exact⟨_,h,fun ob' _ K' hK=>hK⟩
  exact h.elim
 exact aD h
theorem ZY {T:TT} {G:Nat->Option (List (D×D))} {t:Nat} {x key:AV} {ok:Bool} {ob:List (Option OB)} {K:AV->Prop} (h:SH T G t x key ok ob K) :
  ∃v,K v/\∀ob',Agree x.refs ob ob'->∀K':AV->Prop,K' v->SH T G t x key ok ob' K':=by
 unfold SH at h ⊢
 split at h
 ·unfold ZO at h ⊢
  split at h
  ·rw[AH] at h
   obtain⟨h0,q,hq,v,hv,b,hb,h⟩:=h
   exact⟨_,h,fun ob' _ K' hK=>(AH _ _).2 ⟨h0,q,hq,v,hv,b,hb,hK⟩⟩
  exact h.elim
 exact aG h
theorem RI {T:TT} {t:Nat} {x key v:AV} {ob:List (Option OB)} {K:AV->W->Prop} (h:I6 T t x key v ob K) :
  ∃u w,K u w/\(∀q ∈ w,q.1 ∈ x.refs++v.refs)/\∀ob',Agree (x.refs++v.refs) ob ob'->∀K':AV->W->Prop,K' u w->I6 T t x key v ob' K':=by
 unfold I6 at h ⊢
 split at h
 ·rename_i k e r kv hk
  rw[AH] at h
  obtain⟨h0,h⟩:=h
  obtain⟨d,w,h,hq,hd⟩:=Lj h
  rw[AH] at h
  obtain⟨h1,h⟩:=h
  obtain⟨o,h,ho⟩:=B1 h
  cases o with
  | box=>exact h.elim
  | row=>exact h.elim
  | gone=>exact h.elim
  | map k' e' es=>
   simp only at h
   obtain⟨zs,hz,h⟩:=h
   refine⟨_,_,h,fun q hm=>?_,fun ob' ha K' hK=>(AH _ _).2 ⟨h0,hd ob' (ha.mono fun r hr=>by simp[hr]) _ ((AH _ _).2 ⟨h1,ho ob' (ha r (by simp[AV.refs])) _ ⟨zs,hz,hK⟩⟩)⟩⟩
   rcases X23.1 hm with hm | hm
   ·exact List.mem_append_right _ (hq q hm)
   simp only[X14] at hm
   rw[hm]
   simp[AV.refs]
  | amap k' e' es _ _ _=>
   simp only at h
   obtain⟨zs,hz,h⟩:=h
   refine⟨_,_,h,fun q hm=>?_,fun ob' ha K' hK=>(AH _ _).2 ⟨h0,hd ob' (ha.mono fun r hr=>by simp[hr]) _ ((AH _ _).2 ⟨h1,ho ob' (ha r (by simp[AV.refs])) _ ⟨zs,hz,hK⟩⟩)⟩⟩
   rcases X23.1 hm with hm | hm
   ·exact List.mem_append_right _ (hq q hm)
   simp only[X14] at hm
   rw[hm]
   simp[AV.refs]
 exact h.elim
theorem XT {T:TT} {t r0 n0:Nat} {x key:AV} {ob:List (Option OB)} {K:AV->W->Prop} (h:KE T t x key r0 n0 ob K) :
  ∃u w,K u w/\(∀q ∈ w,q.1 ∈ x.refs++(AV.own r0 n0).refs)/\∀ob',Agree (x.refs++(AV.own r0 n0).refs) ob ob'->∀K':AV->W->Prop,K' u w->KE T t x key r0 n0 ob' K':=by
 unfold KE at h ⊢
 split at h
 ·rename_i k e r kv hk
  rw[AH] at h
  obtain⟨h0,h⟩:=h
  obtain⟨d,w,h,hq,hd⟩:=Lj h
  rw[AH] at h
  obtain⟨h1,h⟩:=h
  obtain⟨o,h,ho⟩:=B1 h
  cases o with
  | box=>exact h.elim
  | row=>exact h.elim
  | gone=>exact h.elim
  | map k' e' es=>
   simp only at h
   obtain⟨zs,hz,h⟩:=h
   refine⟨_,_,h,fun q hm=>?_,fun ob' ha K' hK=>(AH _ _).2 ⟨h0,hd ob' (ha.mono fun r hr=>by simp[hr]) _ ((AH _ _).2 ⟨h1,ho ob' (ha r (by simp[AV.refs])) _ ⟨zs,hz,hK⟩⟩)⟩⟩
   rcases X23.1 hm with hm | hm
   ·exact List.mem_append_right _ (hq q hm)
   simp only[X14] at hm
   rw[hm]
   simp[AV.refs]
  | amap k' e' es _ _ _=>
   simp only at h
   obtain⟨zs,hz,h⟩:=h
   refine⟨_,_,h,fun q hm=>?_,fun ob' ha K' hK=>(AH _ _).2 ⟨h0,hd ob' (ha.mono fun r hr=>by simp[hr]) _ ((AH _ _).2 ⟨h1,ho ob' (ha r (by simp[AV.refs])) _ ⟨zs,hz,hK⟩⟩)⟩⟩
   rcases X23.1 hm with hm | hm
   ·exact List.mem_append_right _ (hq q hm)
   simp only[X14] at hm
   rw[hm]
   simp[AV.refs]
 exact h.elim
theorem RU {T:TT} {t:Nat} {x key v:AV} {ob:List (Option OB)} {K:AV->W->Prop} (h:J9 T t x key v ob K) :
  ∃u w,K u w/\(∀q ∈ w,q.1 ∈ x.refs++v.refs)/\∀ob',Agree (x.refs++v.refs) ob ob'->∀K':AV->W->Prop,K' u w->J9 T t x key v ob' K':=by
 unfold J9 at h ⊢
 split at h
 ·rcases h with h | h
  ·obtain⟨u,w,h1,h2,h3⟩:=RI h
   exact⟨u,w,h1,h2,fun ob' ha K' hK=>.inl (h3 ob' ha K' hK)⟩
  obtain⟨u,w,h1,h2,h3⟩:=XT h
  exact⟨u,w,h1,h2,fun ob' ha K' hK=>.inr (h3 ob' ha K' hK)⟩
 exact RI h
theorem Es {o:Option AV} {dflt:Int} {K:Int->Prop} (h:Dc o dflt K) :∃i,K i/\∀K':Int->Prop,K' i->Dc o dflt K':=by
 unfold Dc at h ⊢
 split at h
 ·exact⟨_,h,fun K' hK=>hK⟩
 ·exact⟨_,h,fun K' hK=>hK⟩
 exact h.elim
theorem Y8 {sz:Nat} {d:D} {lo hi:Option AV} {K:AV->Prop} (h:Jt sz d lo hi K) :∃v,K v/\v.isOsl=false/\∀K':AV->Prop,K' v->Jt sz d lo hi K':=by
 cases d with
 | lst sz' es=>
  simp only[Jt,AH] at h ⊢
  obtain⟨h0,h⟩:=h
  obtain⟨l,h,hl⟩:=Es h
  obtain⟨u,⟨hc,ys,hy,h⟩,hu⟩:=Es h
  exact⟨_,h,rfl,fun K' hK=>⟨h0,hl _ (hu _ ⟨hc,ys,hy,hK⟩)⟩⟩
 | _=>simp[Jt] at h
theorem Qc {T:TT} {e:Nat} {x:AV} {lo hi:Option AV} {ob:List (Option OB)} {K:AV->W->Prop} (h:Jm T e x lo hi ob K) :
  ∃v w,K v w/\(v.isOsl=true->w=[])/\(∀q ∈ w,q.1 ∈ x.refs)/\∀ob',Agree x.refs ob ob'->∀K':AV->W->Prop,K' v w->Jm T e x lo hi ob' K':=by
 unfold Jm at h ⊢
 rw[AH] at h
 obtain⟨h0,h⟩:=h
 obtain⟨d,w,h,hq,hd⟩:=Lj h
 obtain⟨v,h,hno,hv⟩:=Y8 h
 exact⟨v,w,h,fun e=>by rw[hno] at e;simp at e,hq,fun ob' ha K' hK=>(AH _ _).2 ⟨h0,hd ob' ha _ (hv _ hK)⟩⟩
theorem ZR {T:TT} {e r n:Nat} {lo hi:Option AV} {ob:List (Option OB)} {K:AV->W->Prop} (h:QS T e r n lo hi ob K) :
  ∃v w,K v w/\(v.isOsl=true->w=[])/\(∀q ∈ w,q.1 ∈ [r])/\∀ob',Agree [r] ob ob'->∀K':AV->W->Prop,K' v w->QS T e r n lo hi ob' K':=by
 unfold QS at h ⊢
 rw[AH] at h
 obtain⟨h0,h⟩:=h
 obtain⟨o,h,ho⟩:=B1 h
 cases o with
 | box=>exact h.elim
 | map=>exact h.elim
 | amap=>exact h.elim
 | gone=>exact h.elim
 | row e' sz es f=>
  simp only[AH] at h
  obtain⟨h1,h⟩:=h
  obtain⟨l,h,hl⟩:=Es h
  obtain⟨u,⟨hc,hn,a,k,ha,hk,h⟩,hu⟩:=Es h
  exact⟨_,_,h,fun _=>rfl,fun q hq=>by simp at hq,fun ob' hag K' hK=>(AH _ _).2 ⟨h0,ho ob' (hag r (by simp)) _ (by simp only[AH];exact⟨h1,hl _ (hu _ ⟨hc,hn,a,k,ha,hk,hK⟩)⟩)⟩⟩
theorem U0 {T:TT} {e self r n:Nat} {lo hi mx:Option AV} {ob:List (Option OB)} {K:AV->W->Prop} (h:LS T e self r n lo hi mx ob K) :
  ∃v w,K v w/\(v.isOsl=true->w=[])/\(∀q ∈ w,q.1 ∈ [self,r])/\∀ob',Agree [self,r] ob ob'->∀K':AV->W->Prop,K' v w->LS T e self r n lo hi mx ob' K':=by
 unfold LS at h ⊢
 have hq:=h
 rw[B2,AH] at h
 obtain⟨hs,h0,h⟩:=h
 obtain⟨o,h,ho⟩:=B1 h
 cases o with
 | box=>exact h.elim
 | map=>exact h.elim
 | amap=>exact h.elim
 | gone=>exact h.elim
 | row e' sz es f=>
  simp only[AH] at h
  obtain⟨h1,h⟩:=h
  obtain⟨l,h,hl⟩:=Es h
  obtain⟨u,h,hu⟩:=Es h
  obtain⟨q,⟨hc,hn,zs,hz,h⟩,hm⟩:=Es h
  refine⟨_,_,h,fun e=>by simp[AV.isOsl] at e,fun q hq=>?_,fun ob' hag K' hK=>Ju hq (hag self (by simp)) ((AH _ _).2 ⟨h0,ho ob' (hag r (by simp)) _ (by simp only[AH];exact⟨h1,hl _ (hu _ (hm _ ⟨hc,hn,zs,hz,hK⟩))⟩)⟩)⟩
  simp only[List.mem_cons,List.not_mem_nil,or_false] at hq
  rcases hq with rfl | rfl<;>simp
theorem Rk {T:TT} {t self:Nat} {x:AV} {lo hi mx:Option AV} {ob:List (Option OB)} {K:AV->W->Prop} (h:Lt T t self x lo hi mx ob K) :
  ∃v w,K v w/\(v.isOsl=true->w=[])/\(∀q ∈ w,q.1 ∈ self::x.refs)/\∀ob',Agree (self::x.refs) ob ob'->∀K':AV->W->Prop,K' v w->Lt T t self x lo hi mx ob' K':=by
 unfold Lt at h ⊢
 split at h
 ·split at h
  ·split at h
   ·obtain⟨v,w,h1,hos,h2,h3⟩:=U0 h
    exact⟨v,w,h1,hos,fun q hq=>by simpa[AV.refs] using h2 q hq,fun ob' ha K' hK=>h3 ob' (ha.mono fun r hr=>by simpa[AV.refs] using hr) K' hK⟩
   exact h.elim
  exact h.elim
 exact h.elim
theorem UH {T:TT} {t self:Nat} {x:AV} {lo hi:Option AV} {ob:List (Option OB)} {K:AV->W->Prop} (h:Oz T t self x lo hi ob K) :
  ∃v w,K v w/\(v.isOsl=true->w=[])/\(∀q ∈ w,q.1 ∈ self::x.refs)/\∀ob',Agree (self::x.refs) ob ob'->∀K':AV->W->Prop,K' v w->Oz T t self x lo hi ob' K':=by
 unfold Oz at h ⊢
 split at h
 ·split at h
  ·rename_i r n
   rcases h with h | h | h
   ·obtain⟨v,w,h1,hos,h2,h3⟩:=Qc h
    exact⟨v,w,h1,hos,fun q hq=>X19 _ (h2 q hq),fun ob' ha K' hK=>.inl (h3 ob' (ha.mono fun r hr=>X19 _ hr) K' hK)⟩
   ·obtain⟨v,w,h1,hos,h2,h3⟩:=ZR h
    exact⟨v,w,h1,hos,fun q hq=>X19 _ (by simpa[AV.refs] using h2 q hq),fun ob' ha K' hK=>.inr (.inl (h3 ob' (ha.mono fun r hr=>X19 _ (by simpa[AV.refs] using hr)) K' hK))⟩
   obtain⟨v,w,h1,hos,h2,h3⟩:=U0 h
   exact⟨v,w,h1,hos,fun q hq=>by simpa[AV.refs] using h2 q hq,fun ob' ha K' hK=>.inr (.inr (h3 ob' (ha.mono fun r hr=>by simpa[AV.refs] using hr) K' hK))⟩
  ·rcases h with h | h
   ·obtain⟨v,w,h1,hos,h2,h3⟩:=Qc h
    exact⟨v,w,h1,hos,fun q hq=>X19 _ (h2 q hq),fun ob' ha K' hK=>.inl (h3 ob' (ha.mono fun r hr=>X19 _ hr) K' hK)⟩
   rw[AH] at h
   obtain⟨h0,h⟩:=h
   obtain⟨l,h,hl⟩:=Es h
   obtain⟨u,⟨hc,h⟩,hu⟩:=Es h
   exact⟨_,_,h,fun _=>rfl,fun q hq=>by simp at hq,fun ob' _ K' hK=>.inr ((AH _ _).2 ⟨h0,hl _ (hu _ ⟨hc,hK⟩)⟩)⟩
  obtain⟨v,w,h1,hos,h2,h3⟩:=Qc h
  exact⟨v,w,h1,hos,fun q hq=>X19 _ (h2 q hq),fun ob' ha K' hK=>h3 ob' (ha.mono fun r hr=>X19 _ hr) K' hK⟩
 ·split at h
  ·obtain⟨l,h,hl⟩:=Es h
   obtain⟨u,⟨hc,h⟩,hu⟩:=Es h
   exact⟨_,_,h,fun _=>rfl,fun q hq=>by simp at hq,fun ob' _ K' hK=>hl _ (hu _ ⟨hc,hK⟩)⟩
  exact h.elim
 exact h.elim
theorem Wq {T:TT} {t u self:Nat} {x n:AV} {ob:List (Option OB)} {K:AV->W->Prop} (h:Ny T t u self x n ob K) :
  ∃v w,K v w/\(∀q ∈ w,q.1 ∈ self::x.refs)/\∀ob',Agree (self::x.refs) ob ob'->∀K':AV->W->Prop,K' v w->Ny T t u self x n ob' K':=by
 unfold Ny at h
 split at h
 ·rename_i r k
  unfold U2 at h
  split at h
  ·rename_i e n hk hku
   obtain⟨o,h,ho⟩:=B1 h
   cases o with
   | box=>exact h.elim
   | map=>exact h.elim
   | amap=>exact h.elim
   | gone=>exact h.elim
   | row e' sz es f=>
    simp only[AH] at h
    obtain⟨h0,h1,z,hz,zs,hzs,h⟩:=h
    refine⟨_,_,h,fun q hq=>by simp only[X14] at hq;simp[hq,AV.refs],fun ob' ha K' hK=>?_⟩
    unfold Ny U2
    simp only[hk,hku]
    exact ho ob' (ha r (by simp[AV.refs])) _ (by simp only[AH];exact⟨h0,h1,z,hz,zs,hzs,hK⟩)
  exact h.elim
 ·rename_i d
  unfold VK at h
  split at h
  ·rename_i e szn n hk hku hxn
   cases hxn
   have h0:=h
   rw[B2] at h
   obtain⟨_,h⟩:=h
   rw[AH] at h
   obtain⟨h1,hb,z,hz,zs,hzs,h⟩:=h
   refine⟨_,_,h,fun q hq=>by simp only[X14] at hq;simp[hq],fun ob' ha K' hK=>?_⟩
   unfold Ny VK
   simp only[hk,hku]
   refine Ju h0 (ha _ (by simp)) ?_
   exact (AH _ _).2 ⟨h1,hb,z,hz,zs,hzs,hK⟩
  exact h.elim
 exact h.elim
theorem ZG {T:TT} {t r a n m:Nat} {ob:List (Option OB)} {K:AV->W->Prop} (h:NF T t r a n m ob K) :
  ∃v w,K v w/\(∀q ∈ w,q.1 ∈ [r])/\∀ob',Agree [r] ob ob'->∀K':AV->W->Prop,K' v w->NF T t r a n m ob' K':=by
 unfold NF at h ⊢
 split at h
 ·obtain⟨o,h,ho⟩:=B1 h
  cases o with
  | box=>exact h.elim
  | map=>exact h.elim
  | amap=>exact h.elim
  | gone=>exact h.elim
  | row e' sz es f=>
   simp only[AH] at h
   obtain⟨h0,h1,z,hz,zs,hzs,h⟩:=h
   exact⟨_,_,h,fun q hq=>by simp only[X14] at hq;simp[hq],fun ob' ha K' hK=>ho ob' (ha r (by simp)) _ (by simp only[AH];exact⟨h0,h1,z,hz,zs,hzs,hK⟩)⟩
 exact h.elim
theorem WV {T:TT} {e r a n m sz':Nat} {ys:List D} {ob:List (Option OB)} {K:AV->W->Prop} (h:PN T e r a n m sz' ys ob K) :
  ∃v w,K v w/\(∀q ∈ w,q.1 ∈ [r])/\∀ob',Agree [r] ob ob'->∀K':AV->W->Prop,K' v w->PN T e r a n m sz' ys ob' K':=by
 unfold PN at h ⊢
 obtain⟨o,h,ho⟩:=B1 h
 cases o with
 | box=>exact h.elim
 | map=>exact h.elim
 | amap=>exact h.elim
 | gone=>exact h.elim
 | row e' sz es f=>
  simp only[AH] at h
  obtain⟨h0,h1,zs,hzs,k,hk,h⟩:=h
  exact⟨_,_,h,fun q hq=>by simp only[X14] at hq;simp[hq],fun ob' ha K' hK=>ho ob' (ha r (by simp)) _ (by simp only[AH];exact⟨h0,h1,zs,hzs,k,hk,hK⟩)⟩
theorem aC {T:TT} {t:Nat} {x y:AV} {ob:List (Option OB)} {K:AV->W->Prop} (h:RH T t x y ob K) :
  ∃v w,K v w/\(∀q ∈ w,q.1 ∈ x.refs)/\∀ob',Agree (x.refs++y.refs) ob ob'->∀K':AV->W->Prop,K' v w->RH T t x y ob' K':=by
 unfold RH at h ⊢
 split at h
 ·obtain⟨sz,ys,h,hy⟩:=Vi h
  split at h
  ·rename_i r n
   obtain⟨v,w,h1,h2,h3⟩:=WV h
   exact⟨v,w,h1,fun q hq=>by simpa[AV.refs] using h2 q hq,fun ob' ha K' hK=>hy ob' (ha.mono fun q hq=>List.mem_append_right _ hq) _ (h3 ob' (ha.mono fun q hq=>List.mem_append_left _ (by simpa[AV.refs] using hq)) K' hK)⟩
  ·rename_i r a n m
   obtain⟨v,w,h1,h2,h3⟩:=WV h
   exact⟨v,w,h1,fun q hq=>by simpa[AV.refs] using h2 q hq,fun ob' ha K' hK=>hy ob' (ha.mono fun q hq=>List.mem_append_right _ hq) _ (h3 ob' (ha.mono fun q hq=>List.mem_append_left _ (by simpa[AV.refs] using hq)) K' hK)⟩
  exact h.elim
 exact h.elim
theorem Qe {T:TT} {t:Nat} {x y:AV} {ob:List (Option OB)} {K:AV->Prop} (h:FN T t x y ob K) :
  ∃v,K v/\∀ob',Agree x.refs ob ob'->∀K':AV->Prop,K' v->FN T t x y ob' K':=by
 unfold FN at h ⊢
 split at h
 ·split at h
  ·simp only[AH] at h ⊢
   obtain⟨h0,h1,h2,v,h3,h4,h⟩:=h
   exact⟨_,h,fun ob' _ K' hK=>⟨h0,h1,h2,v,h3,h4,hK⟩⟩
  ·rename_i r n _
   obtain⟨o,h,ho⟩:=B1 h
   cases o with
   | box cs=>
    simp only[AH] at h
    obtain⟨h0,h1,h2,h⟩:=h
    exact⟨_,h,fun ob' ha K' hK=>ho ob' (ha r (by simp[AV.refs])) _ (by simp only[AH];exact⟨h0,h1,h2,hK⟩)⟩
   | map=>exact h.elim
   | amap=>exact h.elim
   | gone=>exact h.elim
   | row e' sz es f=>
    simp only[AH] at h
    obtain⟨h0,h1,h2,h3,h⟩:=h
    exact⟨_,h,fun ob' ha K' hK=>ho ob' (ha r (by simp[AV.refs])) _ (by simp only[AH];exact⟨h0,h1,h2,h3,hK⟩)⟩
  ·simp only[AH] at h ⊢
   obtain⟨h0,h1,⟨h2,h⟩|⟨h3,h2,j,hj,h⟩⟩:=h
   ·exact⟨_,h,fun ob' _ K' hK=>⟨h0,h1,.inl ⟨h2,hK⟩⟩⟩
   exact⟨_,h,fun ob' _ K' hK=>⟨h0,h1,.inr ⟨h3,h2,j,hj,hK⟩⟩⟩
  exact h.elim
 exact h.elim
theorem TG {T:TT} {t:Nat} {x y:AV} {ob:List (Option OB)} {K:AV->Prop} (h:GG T t x y ob K) :
  ∃v,K v/\∀ob',Agree x.refs ob ob'->∀K':AV->Prop,K' v->GG T t x y ob' K':=by
 unfold GG at h ⊢
 split at h
 ·rename_i r a n m
  unfold I4 at h ⊢
  split at h
  ·split at h
   ·obtain⟨o,h,ho⟩:=B1 h
    cases o with
    | box=>exact h.elim
    | map=>exact h.elim
    | amap=>exact h.elim
    | gone=>exact h.elim
    | row e' sz es f=>
     simp only[AH] at h
     obtain⟨h0,h1,h2,h3,j,hj,h⟩:=h
     exact⟨_,h,fun ob' ha K' hK=>ho ob' (ha r (by simp[AV.refs])) _ (by simp only[AH];exact⟨h0,h1,h2,h3,j,hj,hK⟩)⟩
   exact h.elim
  exact h.elim
 exact Qe h
theorem Pi {x:AV} {K:List AV->Prop} (h:HN x K) :∃l,K l/\∀K':List AV->Prop,K' l->HN x K':=by
 unfold HN at h ⊢
 split at h
 ·rename_i cs
  have hm :∀(cs:List D) (K:List AV->Prop),Lx (fun c K=>K (AV.d c)) cs K↔K (cs.map .d):=by
   intro cs
   induction cs with
   | nil=>intro K;simp[Lx]
   | cons c cs ih=>intro K;simp[Lx,ih]
  rw[hm] at h
  exact⟨_,h,fun K' hK=>(hm _ _).2 hK⟩
 ·exact⟨_,h,fun K' hK=>hK⟩
 exact h.elim
theorem ZT {T:TT} {t off:Nat} {cs:List AV} {K:AV->Prop} (h:RB T t cs off K) :∃v,K v/\∀K':AV->Prop,K' v->RB T t cs off K':=by
 unfold RB at h ⊢
 split at h
 ·simp only[Dl,AH,C6,EC] at h ⊢
  exact⟨_,h.2,fun K' hK=>⟨h.1,hK⟩⟩
 ·split at h
  ·obtain⟨v,h1,h2⟩:=Gx h
   exact⟨v,h1,fun K' hK=>h2 K' hK⟩
  exact h.elim
 exact h.elim
theorem Xw {T:TT} {t:Nat} {x y:AV} {K:AV->Prop} (h:NB T t x y K) :∃v,K v/\∀K':AV->Prop,K' v->NB T t x y K':=by
 unfold NB at h ⊢
 split at h
 ·split at h
  ·obtain⟨h1,c,h2,h⟩:=h
   exact⟨_,h,fun K' hK=>⟨h1,c,h2,hK⟩⟩
  ·obtain⟨cs,h,hx⟩:=Pi h
   obtain⟨h1,h⟩:=h
   split at h
   ·rename_i hc
    obtain⟨a,ha,h⟩:=h
    obtain⟨v,g1,g2⟩:=Gx h
    exact⟨v,g1,fun K' hK=>hx _ ⟨h1,⟨a,ha,g2 K' hK⟩⟩⟩
   exact h.elim
  exact h.elim
 exact h.elim
theorem ZA {T:TT} {t i:Nat} {x:AV} {K:AV->Prop} (h:Nq T t i x K) :∃v,K v/\∀K':AV->Prop,K' v->Nq T t i x K':=by
 unfold Nq at h ⊢
 split at h
 ·split at h
  ·obtain⟨cs,h,hx⟩:=Pi h
   obtain⟨v,g1,g2⟩:=ZT h
   exact⟨v,g1,fun K' hK=>hx _ (g2 K' hK)⟩
  exact h.elim
 exact h.elim
theorem Vu {T:TT} {t i:Nat} {K:Nat->Nat->Nat->Prop} (h:IU T t i K) :∃a b c,K a b c/\∀K':Nat->Nat->Nat->Prop,K' a b c->IU T t i K':=by
 unfold IU at h ⊢
 split at h
 ·split at h
  ·split at h
   ·exact h.elim
   exact⟨_,_,_,h,fun K' hK=>hK⟩
  exact h.elim
 exact h.elim
theorem aI {T:TT} {src dst:Nat} {x:AV} {ob:List (Option OB)} {K:AV->Prop} (h:R9 T src dst x ob K) :
  ∃v,K v/\∀ob',Agree x.refs ob ob'->∀K':AV->Prop,K' v->R9 T src dst x ob' K':=by
 unfold R9 at h ⊢
 rw[AH] at h
 obtain⟨h0,h⟩:=h
 split at h
 ·obtain⟨r,h1,h⟩:=h
  exact⟨_,h,fun ob' _ K' hK=>(AH _ _).2 ⟨h0,r,h1,hK⟩⟩
 ·exact⟨_,h,fun ob' _ K' hK=>(AH _ _).2 ⟨h0,hK⟩⟩
 ·split at h
  ·split at h
   ·rename_i hke
    rw[AH] at h
    obtain⟨h1,h⟩:=h
    obtain⟨sz,es,h,hx⟩:=Vi h
    rw[AH] at h
    obtain⟨h2,l,h3,h⟩:=h
    exact⟨_,h,fun ob' ha K' hK=>(AH _ _).2 ⟨h0,(AH _ _).2 ⟨h1,hx ob' ha _ ((AH _ _).2 ⟨h2,l,h3,hK⟩)⟩⟩⟩
   exact h.elim
  exact h.elim
 exact h.elim
theorem Ww {T:TT} {ty self:Nat} {x:AV} {ob:List (Option OB)} {K:AV->W->Prop} (h:SC T ty self x ob K) :
  ∃v w,K v w/\(∀q ∈ w,q.1=self)/\∀ob',ob'[self]?=ob[self]?->∀K':AV->W->Prop,K' v w->SC T ty self x ob' K':=by
 unfold SC at h ⊢
 split at h
 ·split at h
  ·split at h
   ·rename_i hs
    rw[AH] at h
    exact⟨_,_,h.2,fun q hq=>by simp only[X14] at hq;simp[hq],fun ob' ha K' hK=>by rw[ha,hs];exact (AH _ _).2 ⟨h.1,hK⟩⟩
   rename_i hs
   refine⟨_,_,h,fun q hq=>by simp at hq,fun ob' ha K' hK=>?_⟩
   rw[ha]
   split
   ·rename_i h2;exact absurd h2 hs
   exact hK
  exact h.elim
 obtain⟨v,h1,h2⟩:=Gx h
 exact⟨v,[],h1,fun q hq=>by simp at hq,fun ob' _ K' hK=>h2 _ hK⟩
theorem aQ (r:Nat) :∀(l:List Nat) (n:Nat) {F N:Nat->Prop},IP.go r l n F N->(∃k,F k/\∀F' N':Nat->Prop,F' k->IP.go r l n F' N')\/(∃k,N k/\∀F' N':Nat->Prop,N' k->IP.go r l n F' N')
 | [],n,F,N,h=>.inr ⟨n,h,fun F' N' h'=>h'⟩
 | x::l,n,F,N,h=>by
  simp only[IP.go] at h ⊢
  cases hb:Nat.beq x r with
  | true=>simp only[hb] at h ⊢;exact .inl ⟨n,h,fun F' N' h'=>h'⟩
  | false=>
   simp only[hb] at h ⊢
   rcases aQ r l (n + 1) h with ⟨k,h1,h2⟩|⟨k,h1,h2⟩
   ·exact .inl ⟨k,h1,h2⟩
   exact .inr ⟨k,h1,h2⟩
theorem PQ {r:Nat} {ρ:List Nat} {K:Nat->List Nat->Prop} (h:IP.refK r ρ K) :∃i ρ',K i ρ'/\(∀x ∈ ρ',x ∈ ρ\/x=r)/\∀K':Nat->List Nat->Prop,K' i ρ'->IP.refK r ρ K':=by
 rcases aQ r ρ 0 h with ⟨k,h1,h2⟩|⟨k,h1,h2⟩
 ·exact⟨k,ρ,h1,fun x hx=>.inl hx,fun K' hK=>h2 _ _ hK⟩
 exact⟨k,_,h1,fun x hx=>by simpa using hx,fun K' hK=>h2 _ _ hK⟩
theorem Wp :∀{caps:List AV} {ρ:List Nat} {K:List AV->List Nat->Prop},IP.capsK caps ρ K->∃c' ρ',K c' ρ'/\(∀x ∈ ρ',x ∈ ρ\/x ∈ AV.refs.refsL caps)/\∀K':List AV->List Nat->Prop,K' c' ρ'->IP.capsK caps ρ K'
 | [],ρ,K,h=>⟨_,_,h,fun x hx=>.inl hx,fun K' hK=>hK⟩
 | c::caps,ρ,K,h=>by
  cases c<;>simp only[IP.capsK] at h ⊢
  case ref r off=>
   obtain⟨i,ρ1,h,h1,h2⟩:=PQ h
   obtain⟨c',ρ2,h,h3,h4⟩:=Wp h
   refine⟨_,ρ2,h,fun x hx=>?_,fun K' hK=>h2 _ (h4 _ hK)⟩
   rcases h3 x hx with hx | hx
   ·rcases h1 x hx with hx | hx
    ·exact .inl hx
    exact .inr (by simp[AV.refs.refsL,AV.refs,hx])
   exact .inr (by simp[AV.refs.refsL,hx])
theorem au {keep:Bool} {ob:List (Option OB)} {a:AV} {ρ:List Nat} {K:AV->List Nat->W->Prop} (h:IP keep ob a ρ K) :
  ∃a' ρ' w,K a' ρ' w/\(∀q ∈ w,q.1 ∈ a.refs)/\(∀x ∈ ρ',x ∈ ρ\/x ∈ a.refs)/\∀ob',Agree a.refs ob ob'->∀K':AV->List Nat->W->Prop,K' a' ρ' w->IP keep ob' a ρ K':=by
 cases a<;>simp only[IP] at h ⊢
 case d x=>
  split at h
  ·exact⟨_,_,_,h,fun q hq=>by simp at hq,fun x hx=>.inl hx,fun ob' _ K' hK=>hK⟩
  exact⟨_,_,_,(D4 _ _).1 h,fun q hq=>by simp at hq,fun x hx=>.inl hx,fun ob' _ K' hK=>(D4 _ _).2 hK⟩
 case own r n=>
  cases keep with
  | true=>
   obtain⟨i,ρ1,h,h1,h2⟩:=PQ h
   exact⟨_,_,_,h,fun q hq=>by simp at hq,fun x hx=>(h1 x hx).imp id fun e=>by simp[AV.refs,e],fun ob' _ K' hK=>h2 _ hK⟩
  | false=>
   obtain⟨x,w,h,hq,h2⟩:=Lj h
   exact⟨_,_,_,h,hq,fun x hx=>.inl hx,fun ob' ha K' hK=>h2 ob' ha _ hK⟩
 case agg cs=>
  obtain⟨x,w,h,hq,h2⟩:=Lj h
  exact⟨_,_,_,h,hq,fun x hx=>.inl hx,fun ob' ha K' hK=>h2 ob' ha _ hK⟩
 case ref r off=>
  obtain⟨i,ρ1,h,h1,h2⟩:=PQ h
  exact⟨_,_,_,h,fun q hq=>by simp at hq,fun x hx=>(h1 x hx).imp id fun e=>by simp[AV.refs,e],fun ob' _ K' hK=>h2 _ hK⟩
 case mp r=>
  obtain⟨i,ρ1,h,h1,h2⟩:=PQ h
  exact⟨_,_,_,h,fun q hq=>by simp at hq,fun x hx=>(h1 x hx).imp id fun e=>by simp[AV.refs,e],fun ob' _ K' hK=>h2 _ hK⟩
 case it g r=>
  obtain⟨i,ρ1,h,h1,h2⟩:=PQ h
  exact⟨_,_,_,h,fun q hq=>by simp at hq,fun x hx=>(h1 x hx).imp id fun e=>by simp[AV.refs,e],fun ob' _ K' hK=>h2 _ hK⟩
 case eref cs=>exact⟨_,_,_,h,fun q hq=>by simp at hq,fun x hx=>.inl hx,fun ob' _ K' hK=>hK⟩
 case fn f caps=>
  obtain⟨c',ρ1,h,h1,h2⟩:=Wp h
  exact⟨_,_,_,h,fun q hq=>by simp at hq,fun x hx=>(h1 x hx).imp id fun e=>by simpa[AV.refs] using e,fun ob' _ K' hK=>h2 _ hK⟩
theorem WZ {keep:List Bool} {ob:List (Option OB)} :∀{asz:List AV} {ρ:List Nat} {K:List AV->List Nat->W->Prop},OJ keep ob asz ρ K->
  ∃asz' ρ' w,K asz' ρ' w/\(∀q ∈ w,q.1 ∈ AV.refs.refsL asz)/\(∀x ∈ ρ',x ∈ ρ\/x ∈ AV.refs.refsL asz)/\∀ob',Agree (AV.refs.refsL asz) ob ob'->∀K':List AV->List Nat->W->Prop,K' asz' ρ' w->OJ keep ob' asz ρ K'
 | [],ρ,K,h=>⟨_,_,_,h,fun q hq=>by simp at hq,fun x hx=>.inl hx,fun ob' _ K' hK=>hK⟩
 | a::asz,ρ,K,h=>by
  simp only[OJ] at h ⊢
  obtain⟨a',ρ1,w1,h,h1,h2,h3⟩:=au h
  obtain⟨asz',ρ2,w2,h,g1,g2,g3⟩:=WZ h
  refine⟨_,_,_,h,fun q hq=>?_,fun x hx=>?_,fun ob' ha K' hK=>h3 ob' (ha.mono fun r hr=>by simp[AV.refs.refsL,hr]) _ (g3 ob' (ha.mono fun r hr=>by simp[AV.refs.refsL,hr]) _ hK)⟩
  ·simp only[AV.refs.refsL,X23]
   rcases X23.1 hq with hq | hq
   ·exact .inl (h1 q hq)
   exact .inr (g1 q hq)
  simp only[AV.refs.refsL,X23]
  rcases g2 x hx with hx | hx
  ·exact (h2 x hx).imp id .inl
  exact .inr (.inr hx)
theorem Oo {ob:List (Option OB)} :∀{ρ:List Nat} {K:List OB->Prop},Gi ob ρ K->∃l,K l/\∀ob',Agree ρ ob ob'->∀K':List OB->Prop,K' l->Gi ob' ρ K'
 | [],K,h=>⟨_,h,fun ob' _ K' hK=>hK⟩
 | r::ρ,K,h=>by
  simp only[Gi] at h ⊢
  obtain⟨o,h,ho⟩:=B1 h
  cases o with
  | box cs=>
   simp only[G8] at h
   obtain⟨l,h1,h2⟩:=Oo h.2
   exact⟨_,h1,fun ob' ha K' hK=>ho ob' (ha r (by simp)) _ (by simp only[G8];exact⟨h.1,h2 ob' (ha.mono fun r hr=>by simp[hr]) _ hK⟩)⟩
  | row e sz es f=>
   simp only[AH] at h
   obtain⟨hl,h⟩:=h
   obtain⟨l,h1,h2⟩:=Oo h
   exact⟨_,h1,fun ob' ha K' hK=>ho ob' (ha r (by simp)) _ ((AH _ _).2 ⟨hl,h2 ob' (ha.mono fun r hr=>by simp[hr]) _ hK⟩)⟩
  | amap=>exact h.elim
  | gone=>exact h.elim
  | map k e es=>
   simp only at h
   obtain⟨l,h1,h2⟩:=Oo h
   exact⟨_,h1,fun ob' ha K' hK=>ho ob' (ha r (by simp)) _ (h2 ob' (ha.mono fun r hr=>by simp[hr]) _ hK)⟩
theorem W1 {self:Nat} :∀{ρ:List Nat} {objs:List OB} {K:W->Prop},IF ρ self objs K->∃w,K w/\(∀q ∈ w,q.1=self\/q.1 ∈ ρ)/\∀K':W->Prop,K' w->IF ρ self objs K'
 | [],[],K,h=>⟨_,h,fun q hq=>by simp at hq,fun K' hK=>hK⟩
 | [],[o],K,h=>by
  simp only[IF] at h ⊢
  split at h
  ·rename_i hc;exact⟨_,h,fun q hq=>by simp only[X14] at hq;simp[hq],fun K' hK=>hK⟩
  exact h.elim
 | r::ρ,o::os,K,h=>by
  simp only[IF] at h ⊢
  split at h
  ·obtain⟨w,h1,h3,h2⟩:=W1 h
   refine⟨_,h1,fun q hq=>?_,fun K' hK=>h2 _ hK⟩
   simp only[List.mem_cons] at hq
   rcases hq with hq | hq
   ·simp[hq]
   exact (h3 q hq).imp id fun e=>by simp[e]
  exact h.elim
 | [],_::_::_,K,h=>by simp[IF] at h
 | _::_,[],K,h=>by simp[IF] at h
theorem Zr {cx:Cx} {f:FuncId} {self:Nat} {args:List AV} {ob:List (Option OB)} {K:AV->W->Prop} (h:UF cx f self args ob K) :
  ∃v w,K v w/\(∀q ∈ w,q.1 ∈ self::AV.refs.refsL args)/\∀ob',Agree (self::AV.refs.refsL args) ob ob'->∀K':AV->W->Prop,K' v w->UF cx f self args ob' K':=by
 simp only[VA] at h ⊢
 unfold LQ at h ⊢
 obtain⟨asz',ρ,w,h,h1,h2,h3⟩:=WZ h
 rw[AH] at h
 obtain⟨hap,h⟩:=h
 obtain⟨objs,h,h4⟩:=Oo h
 obtain⟨res,objs',hC,hs,h⟩:=h
 rw[Jn] at h
 obtain⟨a',hr,h⟩:=h
 obtain⟨w',h,h5,h6⟩:=W1 h
 have hρ :∀x ∈ ρ,x ∈ AV.refs.refsL args:=fun x hx=>(h2 x hx).resolve_left (by simp)
 refine⟨_,_,h,fun q hq=>?_,fun ob' ha K' hK=>h3 ob' (ha.mono fun r hr=>by simp[hr]) _ ((AH _ _).2 ⟨hap,h4 ob' (ha.mono fun r hr=>by simp[hρ r hr]) _ ⟨res,objs',hC,?_,(Jn _ _ _ _).2 ⟨a',hr,h6 _ hK⟩⟩⟩)⟩
 ·rcases X23.1 hq with hq | hq
  ·exact X19 _ (h1 q hq)
  rcases h5 q hq with e | e
  ·simp[e]
  exact X19 _ (hρ _ e)
 rcases hs with hs | hs
 ·exact .inl hs
 exact .inr ((ha self (by simp)).trans hs)
theorem aX {l:List AV} {K:AV->Prop} (h:Xb l K) :∃v,K v/\∀K':AV->Prop,K' v->Xb l K':=by
 unfold Xb at h ⊢
 split at h
 ·obtain⟨r,h1,h⟩:=h;exact⟨_,h,fun K' hK=>⟨r,h1,hK⟩⟩
 exact h.elim
theorem am {l:List AV} {K:AV->Prop} (h:Xs l K) :∃v,K v/\∀K':AV->Prop,K' v->Xs l K':=by
 unfold Xs at h ⊢
 split at h
 ·obtain⟨r,h1,h⟩:=h;exact⟨_,h,fun K' hK=>⟨r,h1,hK⟩⟩
 exact h.elim
end Go.AX
end
