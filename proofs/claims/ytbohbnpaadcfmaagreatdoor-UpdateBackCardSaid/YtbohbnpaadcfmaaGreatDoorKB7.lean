/-
  Texts of one proof, packed.
-/
import Derived.Test.YtbohbnpaadcfmaaGreatDoorKB6
set_option linter.all false
set_option maxRecDepth 100000
set_option maxHeartbeats 4000000
open List renaming length_append→X11,length_cons→X12,length_nil→X13,mem_singleton→X14,getElem?_eq_some_iff→X16,length_drop→X17,length_take→X18,mem_cons_of_mem→X19,length_replicate→X20,length_singleton→X22,mem_append→X23
open Option.some renaming injEq→X24,inj→X25
open Bool renaming and_eq_true→X27,eq_iff_iff→X28
open Nat renaming mul_le_mul_right→X31,add_mul→X32
section
namespace Go.AX.Q19
open Go Go.AX
theorem Qe {v n:Int}(hn:1<=n/\n<=4611686018427387904):Ok (KV v n) fun r=>0<=r/\r<n:=by
 unfold KV
 have h1:=Int.tmod_lt_of_pos v (show 0<n by omega)
 have h2:-n<Int.tmod v n:=by
  have:=Int.lt_tmod_of_pos v (show 0<n by omega)
  exact this
 refine .bind (.chk (by omega)) fun _ _=>.join (fun r=>0<=r/\r<n) (fun k hk=>.ite (fun hc=>hk _ ?_) fun hc=>hk _ ?_) fun r hr=>.ret hr
 ·simp only[decide_eq_true_eq] at hc
  rw[AP (by omega)]
  omega
 simp only[decide_eq_true_eq] at hc
 omega
theorem AM {d:JAI}{n:Int}(hd:Dk d)(hn:1<=n/\n<=4611686018427387904):Ok (AL d n) fun r=>0<=r.1/\r.1<n/\Dk r.2:=by
 obtain⟨h1,h2⟩:=hd
 unfold AL
 refine .ite (fun _=>.ret ⟨by simp,by simp;omega,h1,h2⟩) fun h=>?_
 simp only[decide_eq_true_eq] at h
 have e:AN (AN (d.At+1)-1)=d.At:=by rw[AP (x:=d.At+1) (by omega),AP (by omega)];omega
 rw[e,AP (x:=d.At+1) (by omega)]
 refine .bind (.geti (by omega)) fun v _=>.bind (Qe hn) fun r hr=>.ret ⟨hr.1,hr.2,by simp only;omega,h2⟩
theorem OZ {d:JAI}{n:Int}(hd:Dk d)(hn:0<=n/\n<=1000):Ok (Ec d n) fun r=>(r.1.length:Int)<=n/\Dk r.2:=by
 unfold Ec
 rw[AP (by omega)]
 refine .bind (AM hd (by omega)) ?_
 rintro⟨v,d⟩ ⟨v1,v2,hd⟩
 dsimp only at v1 v2 hd ⊢
 refine .join (fun p:JAI×List UInt8=>Dk p.1/\(p.2.length:Int)<=n) (fun k hk=>?_) fun p hp=>.ret ⟨hp.2,hp.1⟩
 refine .whileI (fun s:Int×JAI×List UInt8=>0<=s.1/\s.1+s.2.2.length<=n/\Dk s.2.1) (fun s=>s.1.toNat) ⟨v1,by simp only[X13];omega,hd⟩ (B2 (by simp only;omega)) ?_
 rintro next ⟨c,d,l⟩ ⟨h1,h2,h3⟩ hnx
 dsimp only at h1 h2 h3 ⊢
 refine .ite (fun h=>?_) fun h=>hk (d,l) ⟨h3,by dsimp only;omega⟩
 simp only[decide_eq_true_eq] at h
 refine .bind (AM h3 (by omega)) ?_
 rintro⟨w,d⟩ ⟨w1,w2,hd⟩
 dsimp only at w1 w2 hd ⊢
 refine .bind (Ok.apnd (by decide) (by simp;omega)) fun l2 hl2=>?_
 rw[AP (by omega)]
 exact hnx _ ⟨by dsimp only;omega,by rw[hl2];simp only[X11,X22];omega,hd⟩ (by dsimp only;omega)
theorem RB {d:JAI}(hd:Dk d):Ok (Fq d) fun r=>Dk r.2:=by
 unfold Fq
 refine .bind (AM hd (by omega)) ?_
 rintro⟨v,d⟩ ⟨v1,v2,hd⟩
 refine .bind (AM hd (by omega)) ?_
 rintro⟨w,d⟩ ⟨w1,w2,hd⟩
 refine .bind (AM hd (by omega)) ?_
 rintro⟨u,d⟩ ⟨u1,u2,hd⟩
 exact .bind (.geti (by simp only[X12,X13];omega)) fun x _=>.ret hd
theorem P1 {d:JAI}(hd:Dk d):Ok (FA d) fun r=>(r.1.length<=3/\tot r.1<=12/\GR r.1=true)/\Dk r.2:=by
 unfold FA
 refine .bind (AM hd (by omega)) ?_
 rintro⟨v,d⟩ ⟨v1,v2,hd⟩
 dsimp only at v1 v2 hd ⊢
 refine .join (fun p:JAI×List JAD=>(p.2.length<=3/\tot p.2<=12/\GR p.2=true)/\Dk p.1) (fun k hk=>?_) fun p hp=>.ret hp
 refine .whileI (fun s:Int×JAI×List JAD=>(0<=s.1/\s.1+s.2.2.length<=3/\4*s.1+tot s.2.2<=12/\GR s.2.2=true)/\Dk s.2.1) (fun s=>s.1.toNat) ⟨⟨v1,by simp only[X13];omega,by simp only[tot,List.foldl_nil];omega,rfl⟩,hd⟩ (B2 (by simp only;omega)) ?_
 rintro next ⟨c,d,p⟩ ⟨⟨h1,h2,h3,h4⟩,hd⟩ hnx
 dsimp only at h1 h2 h3 h4 hd ⊢
 refine .ite (fun h=>?_) fun h=>hk (d,p) ⟨⟨by dsimp only;omega,by dsimp only;omega,h4⟩,hd⟩
 simp only[decide_eq_true_eq] at h
 refine .join (fun q:JAI×List JAD=>(q.2.length<=p.length+1/\tot q.2<=tot p+4/\GR q.2=true)/\Dk q.1) (fun k8 hk8=>?_) ?_
 rotate_left
 ·rintro⟨d,q⟩ ⟨⟨q1,q2,q3⟩,hd⟩
  dsimp only at q1 q2 q3 hd ⊢
  rw[AP (by omega)]
  exact hnx _ ⟨⟨by dsimp only;omega,by dsimp only;omega,by dsimp only;omega,q3⟩,hd⟩ (by dsimp only;omega)
 refine .join (fun q:Bool×JAI=>Dk q.2) (fun k9 hk9=>?_) ?_
 ·refine .ite (fun hl=>?_) fun _=>.bind (AM hd (by omega)) fun r hr=>hk9 _ hr.2.2
  simp only[decide_eq_true_eq] at hl
  rw[AP (by omega)]
  exact .bind (.geti (by omega)) fun s _=>.ite (fun _=>hk9 _ hd) fun _=>.bind (AM hd (by omega)) fun r hr=>hk9 _ hr.2.2
 rintro⟨set,d⟩ hd
 dsimp only at hd ⊢
 refine .bind (AM hd (by omega)) ?_
 rintro⟨n,d⟩ ⟨n1,n2,hd⟩
 dsimp only at n1 n2 hd ⊢
 rw[AP (x:=1+n) (by omega)]
 refine .join (fun q:JAI×List Int=>q.2.length<=4/\Dk q.1) (fun k19 hk19=>?_) ?_
 ·refine .whileI (fun s:Int×JAI×List Int=>(0<=s.1/\s.1+s.2.2.length<=4)/\Dk s.2.1) (fun s=>s.1.toNat) ⟨⟨by dsimp only;omega,by simp only[X13];omega⟩,hd⟩ (B2 (by simp only;omega)) ?_
  rintro next ⟨m,d,l⟩ ⟨⟨m1,m2⟩,hd⟩ hnx
  dsimp only at m1 m2 hd ⊢
  refine .ite (fun hm=>?_) fun _=>hk19 (d,l) ⟨by dsimp only;omega,hd⟩
  simp only[decide_eq_true_eq] at hm
  refine .join (fun q:JAI×List Int=>q.2.length<=l.length+1/\Dk q.1) (fun k24 hk24=>?_) ?_
  ·refine .bind (RB hd) ?_
   rintro⟨x,d⟩ hd
   dsimp only at hd ⊢
   refine .ite (fun _=>.bind (Ok.apnd (by decide) (by simp;omega)) fun r hr=>hk24 (d,r) ⟨by rw[hr];simp,hd⟩) fun _=>?_
   refine Ok.pos (n:=l.length) (by omega) (fun k' w w1 w2 hk'=>.ite (fun hw=>?_) fun _=>hk' _ (by simp)) fun w w1 w2=>?_
   ·simp only[decide_eq_true_eq] at hw
    exact .bind (.geti (by omega)) fun y _=>hk' _ fun _=>hw
   refine .join (fun _=>True) (fun k35 hk35=>.ite (fun _=>hk35 _ trivial) fun hw=>.bind (.geti ?_) fun y _=>hk35 _ trivial) fun b _=>?_
   ·simp only[beq_iff_eq] at hw
    omega
   refine .join (fun q:List Int=>q.length<=l.length+1) (fun k38 hk38=>.ite (fun _=>?_) fun _=>hk38 _ (by omega)) fun q hq=>hk24 (d,q) ⟨hq,hd⟩
   refine .bind (Ok.chk (by omega)) fun _ _=>.bind (Ok.apnd (by decide) (by simp;omega)) fun _ _=>.bind (Ok.apnd (by decide) (by simp;omega)) fun a ha=>.bind (Ok.chk (by omega)) fun _ _=>.bind (Ok.apnd (by decide) (by rw[ha];simp;omega)) fun b hb=>hk38 _ ?_
   rw[hb,ha]
   simp only[X11,X18,X17,X22]
   omega
  rintro⟨d,q⟩ ⟨q1,hd⟩
  dsimp only at q1 hd ⊢
  rw[AP (by omega)]
  exact hnx _ ⟨⟨by dsimp only;omega,by dsimp only;omega⟩,hd⟩ (by dsimp only;omega)
 rintro⟨d,l⟩ ⟨l1,hd⟩
 dsimp only at l1 hd ⊢
 refine .bind (Ok.apnd (by decide) (by simp;omega)) fun p2 hp2=>?_
 have ht:tot p2=tot p+l.length:=by rw[hp2,Nk,Ee];simp[tot]
 have hl2:p2.length=p.length+1:=by rw[hp2];simp
 rw[Hw (by omega) (by omega),AC]
 refine .join (fun q:List JAD=>q.length<=p.length+1/\tot q<=tot p+4/\GR q=true) (fun k48 hk48=>.ite (fun _=>?_) fun hv=>hk48 p2 ⟨by omega,by omega,by simpa using hv⟩) fun q hq=>hk8 (d,q) ⟨hq,hd⟩
 rw[AP (by omega)]
 refine .bind (Ok.part (by omega)) fun q hq=>hk48 q ?_
 have e:q=p:=by
  rw[hq.1,hp2]
  have:(((p++[(⟨set,l⟩:JAD)]).length:Int)-1).toNat=p.length:=by simp
  rw[this]
  simp
 rw[e]
 exact⟨by omega,by omega,h4⟩
theorem XY {l:List JAB}{c:JAB}(hv:EY l=true)(hc:okC c=true)(hl:l.length<64):EY (if l.any (fun y=>JAB.eqd y c)=true then l else Ff Jd l c)=true/\(if l.any (fun y=>JAB.eqd y c)=true then l else Ff Jd l c).length<=l.length+1:=by
 split
 ·exact⟨hv,by omega⟩
 rename_i h
 obtain⟨h1,h2,h3⟩:=E8.1 hv
 have hx:c∉l:=fun q=>h (List.any_eq_true.2 ⟨c,q,(ZP _ _).2 rfl⟩)
 rw[E8,HG]
 refine⟨⟨fun y hy=>?_,IY LJ KG h2 hx,by omega⟩,by omega⟩
 rcases D4.1 hy with hy | rfl
 ·exact h1 y hy
 exact hc
theorem W0 {l:List JAF}{c:JAF}(hv:ET l=true)(hc:okL c=true)(hl:l.length<64):ET (if l.any (fun y=>JAF.eqd y c)=true then l else Ff JI l c)=true/\(if l.any (fun y=>JAF.eqd y c)=true then l else Ff JI l c).length<=l.length+1:=by
 split
 ·exact⟨hv,by omega⟩
 rename_i h
 obtain⟨h1,h2,h3⟩:=Et.1 hv
 have hx:c∉l:=fun q=>h (List.any_eq_true.2 ⟨c,q,(ZI _ _).2 rfl⟩)
 rw[Et,HG]
 refine⟨⟨fun y hy=>?_,IY LO Ko h2 hx,by omega⟩,by omega⟩
 rcases D4.1 hy with hy | rfl
 ·exact h1 y hy
 exact hc
theorem Jm {d:JAI}(hd:Dk d):Ok (CV d) fun r=>(EY r.1=true/\r.1.length<=4)/\(ET r.2.1=true/\r.2.1.length<=3)/\Dk r.2.2:=by
 unfold CV
 refine .bind (AM hd (by omega)) ?_
 rintro⟨v,d⟩ ⟨v1,v2,hd⟩
 dsimp only at v1 v2 hd ⊢
 refine .join (fun p:List JAB×JAI=>(EY p.1=true/\p.1.length<=4)/\Dk p.2) (fun k hk=>?_) ?_
 ·refine .whileI (fun s:List JAB×Int×JAI=>(EY s.1=true/\0<=s.2.1/\s.2.1+s.1.length<=4)/\Dk s.2.2) (fun s=>s.2.1.toNat) ⟨⟨rfl,v1,by simp only[X13];omega⟩,hd⟩ (B2 (by simp only;omega)) ?_
  rintro next ⟨l,c,d⟩ ⟨⟨h1,h2,h3⟩,hd⟩ hnx
  dsimp only at h1 h2 h3 hd ⊢
  refine .ite (fun h=>?_) fun _=>hk (l,d) ⟨⟨h1,by dsimp only;omega⟩,hd⟩
  simp only[decide_eq_true_eq] at h
  refine .bind (AM hd (by omega)) ?_
  rintro⟨a,d⟩ ⟨a1,a2,hd⟩
  dsimp only at a1 a2 hd ⊢
  refine .bind (.geti (by simp only[X12,X13];omega)) fun x hx=>.bind (AM hd (by omega)) ?_
  rintro⟨b,d⟩ ⟨b1,b2,hd⟩
  dsimp only at b1 b2 hd ⊢
  refine .bind (AM hd (by omega)) ?_
  rintro⟨e,d⟩ ⟨e1,e2,hd⟩
  dsimp only at e1 e2 hd ⊢
  refine .bind (.geti (by simp only[X12,X13];omega)) fun y hy=>?_
  have hok:okC ⟨x,y⟩=true:=by
   have g1:=hx.1
   have g2:=hy.1
   rw[AP (by omega)] at g2
   simp only[List.mem_cons,List.not_mem_nil,or_false] at g1 g2
   simp only[okC,inR,X27,decide_eq_true_eq]
   omega
  have hadd:=XY h1 hok (by omega)
  rw[UP h1 hok (by omega),AC,AP (by omega)]
  dsimp only
  exact hnx _ ⟨⟨hadd.1,by dsimp only;omega,by have:=hadd.2;dsimp only;omega⟩,hd⟩ (by dsimp only;omega)
 rintro⟨l,d⟩ ⟨hl,hd⟩
 dsimp only at hl hd ⊢
 refine .bind (AM hd (by omega)) ?_
 rintro⟨v,d⟩ ⟨v1,v2,hd⟩
 dsimp only at v1 v2 hd ⊢
 refine .join (fun p:List JAF×JAI=>(ET p.1=true/\p.1.length<=3)/\Dk p.2) (fun k hk=>?_) ?_
 ·refine .whileI (fun s:List JAF×Int×JAI=>(ET s.1=true/\0<=s.2.1/\s.2.1+s.1.length<=3)/\Dk s.2.2) (fun s=>s.2.1.toNat) ⟨⟨rfl,v1,by simp only[X13];omega⟩,hd⟩ (B2 (by simp only;omega)) ?_
  rintro next ⟨l,c,d⟩ ⟨⟨h1,h2,h3⟩,hd⟩ hnx
  dsimp only at h1 h2 h3 hd ⊢
  refine .ite (fun h=>?_) fun _=>hk (l,d) ⟨⟨h1,by dsimp only;omega⟩,hd⟩
  simp only[decide_eq_true_eq] at h
  refine .bind (AM hd (by omega)) ?_
  rintro⟨a,d⟩ ⟨a1,a2,hd⟩
  dsimp only at a1 a2 hd ⊢
  refine .bind (.geti (by simp only[X12,X13];omega)) fun x hx=>.bind (AM hd (by omega)) ?_
  rintro⟨b,d⟩ ⟨b1,b2,hd⟩
  dsimp only at b1 b2 hd ⊢
  refine .bind (AM hd (by omega)) ?_
  rintro⟨e,d⟩ ⟨e1,e2,hd⟩
  dsimp only at e1 e2 hd ⊢
  have hok:okL ⟨x,b,e⟩=true:=by
   have g1:=hx.1
   simp only[List.mem_cons,List.not_mem_nil,or_false] at g1
   simp only[okL,inR,X27,decide_eq_true_eq]
   omega
  have hadd:=W0 h1 hok (by omega)
  rw[NS h1 hok (by omega),AC,AP (by omega)]
  dsimp only
  exact hnx _ ⟨⟨hadd.1,by dsimp only;omega,by have:=hadd.2;dsimp only;omega⟩,hd⟩ (by dsimp only;omega)
 rintro⟨m,d⟩ ⟨hm,hd⟩
 exact .ret ⟨hl,hm,hd⟩
def okO (x:JAA):Bool:=decide (1<=x.Type_/\x.Type_<=255)&&(unk x.Type_&&(decide (x.Flags=224)&&decide (x.Data.length<=255)))
def ltT (a b:JAA):Bool:=decide (a.Type_<b.Type_)
def EM (l:List JAA):Bool:=l.all okO&&chainB ltT l
def Gp (a:JAC):Bool:=EM a.Other&&(decide (-1<=a.Origin/\a.Origin<=2)&&(GR a.Path&&(a.Next.ok&&(decide (-1<=a.MED/\a.MED<=4294967295)&&(decide (-1<=a.Pref/\a.Pref<=4294967295)&&((decide (a.OTC=-1) || KA a.OTC)&&(EY a.Communities&&(ET a.JAF&&decide (a.Other.length<=8)))))))))
theorem Ws (a b c:JAA)(h1:ltT a b=true)(h2:ltT b c=true):ltT a c=true:=by simp only[ltT,decide_eq_true_eq] at *;omega
structure SmT (a:JAC):Prop where
 p:a.Path.length<=1000000
 t:tot a.Path<=1000000
 c:a.Communities.length<=1000000
 l:a.JAF.length<=1000000
 o:a.Other.length<=1000000
 d :∀u∈a.Other,u.Data.length<=1000000
theorem OO {d:JAI}(hd:Dk d):Ok (Eb d) fun r=>(Gp r.1=true/\r.1.Path.length<=3/\tot r.1.Path<=12/\r.1.Communities.length<=4/\r.1.JAF.length<=3/\r.1.Other.length<=6/\∀u∈r.1.Other,u.Data.length<=9)/\Dk r.2:=by
 unfold Eb
 rw[AH]
 refine .bind (AM hd (by omega)) ?_
 rintro⟨o,d⟩ ⟨o1,o2,hd⟩
 dsimp only at o1 o2 hd ⊢
 refine .bind (P1 hd) ?_
 rintro⟨p,d⟩ ⟨hp,hd⟩
 dsimp only at hp hd ⊢
 have e4:I2 3=some ⟨false,(0:UInt64),(AT (3221225984+((AT (AN (1+3))).toNat:Int)))⟩:=rfl
 have e6:KN 4=some ⟨true,(2306139568115548160:UInt64),(AT (AN (1+4)))⟩:=rfl
 rw[e4,AC,e6,AC]
 refine .bind (AM hd (by omega)) ?_
 rintro⟨x,d⟩ ⟨x1,x2,hd⟩
 dsimp only at x1 x2 hd ⊢
 refine .bind (.geti (by simp only[X12,X13];omega)) fun nx hnx=>?_
 have hnx:nx.ok=true:=by
  have:=hnx.1
  simp only[List.mem_cons,List.not_mem_nil,or_false] at this
  rcases this with rfl | rfl | rfl<;>decide
 refine .bind (AM hd (by omega)) ?_
 rintro⟨y,d⟩ ⟨y1,y2,hd⟩
 dsimp only at y1 y2 hd ⊢
 refine .bind (.geti (by simp only[X12,X13];omega)) fun med hmed=>?_
 refine .bind (AM hd (by omega)) ?_
 rintro⟨z,d⟩ ⟨z1,z2,hd⟩
 dsimp only at z1 z2 hd ⊢
 refine .bind (.geti (by simp only[X12,X13];omega)) fun pref hpref=>?_
 refine .bind (AM hd (by omega)) ?_
 rintro⟨w,d⟩ ⟨w1,w2,hd⟩
 dsimp only at w1 w2 hd ⊢
 refine .bind (.geti (by simp only[X12,X13];omega)) fun otc hotc=>?_
 refine .bind (Jm hd) ?_
 rintro⟨cs,ls,d⟩ ⟨hcs,hls,hd⟩
 dsimp only at hcs hls hd ⊢
 refine .join (fun q:JAI×List JAA=>((∀u∈q.2,okO u=true/\u.Data.length<=9)/\q.2.Pairwise (fun a b=>ltT a b=true)/\q.2.length<=6)/\Dk q.1) (fun k23 hk23=>?_) ?_
 ·refine .forX (fun i s=>((∀u∈s.2,okO u=true/\u.Data.length<=9/\∃j,j<i/\([6,7,16,34,200,255]:List Int)[j]?=some u.Type_)/\s.2.Pairwise (fun a b=>ltT a b=true)/\s.2.length<=i)/\Dk s.1) ⟨⟨by simp,.nil,by simp⟩,hd⟩ (fun s hs=>hk23 s ⟨⟨fun u hu=>⟨(hs.1.1 u hu).1,(hs.1.1 u hu).2.1⟩,hs.1.2.1,hs.1.2.2⟩,hs.2⟩) ?_
  rintro next kind i ⟨d,l⟩ hkind ⟨⟨g1,g2,g3⟩,hd⟩ hn
  dsimp only at g1 g2 g3 hd ⊢
  refine .bind (AM hd (by omega)) ?_
  rintro⟨c,d⟩ ⟨c1,c2,hd⟩
  dsimp only at c1 c2 hd ⊢
  have hi:i<6:=(X16.1 hkind).1
  refine .join (fun q:JAI×List JAA=>((∀u∈q.2,okO u=true/\u.Data.length<=9/\∃j,j<i+1/\([6,7,16,34,200,255]:List Int)[j]?=some u.Type_)/\q.2.Pairwise (fun a b=>ltT a b=true)/\q.2.length<=i+1)/\Dk q.1) (fun k31 hk31=>.ite (fun _=>?_) fun _=>hk31 (d,l) ⟨⟨fun u hu=>?_,g2,by dsimp only;omega⟩,hd⟩) fun q hq=>hn q hq
  ·refine .bind (OZ hd (by omega)) ?_
   rintro⟨b,d⟩ ⟨hb,hd⟩
   dsimp only at hb hd ⊢
   refine .bind (Ok.apnd (by decide) (by simp;omega)) fun l2 hl2=>hk31 (d,l2) ⟨?_,hd⟩
   dsimp only
   rw[hl2]
   have hlt :∀j,j<i->∀t,([6,7,16,34,200,255]:List Int)[j]?=some t->t<kind:=by
    intro j hj t ht
    match i,j,hi,hj with
    | 1,0,_,_ | 2,0,_,_ | 2,1,_,_ | 3,0,_,_ | 3,1,_,_ | 3,2,_,_ | 4,0,_,_ | 4,1,_,_ | 4,2,_,_ | 4,3,_,_ | 5,0,_,_ | 5,1,_,_ | 5,2,_,_ | 5,3,_,_ | 5,4,_,_=>simp at ht hkind;omega
   have hkk:decide (1<=kind/\kind<=255)=true/\unk kind=true:=by
    have:=List.mem_of_getElem? hkind
    simp only[List.mem_cons,List.not_mem_nil,or_false] at this
    rcases this with rfl | rfl | rfl | rfl | rfl | rfl<;>decide
   refine⟨fun u hu=>?_,List.pairwise_append.2 ⟨g2,List.pairwise_singleton _ _,fun u hu v hv=>?_⟩,by simp only[X11,X22];omega⟩
   ·rcases X23.1 hu with hu | hu
    ·obtain⟨q1,q2,j,q3,q4⟩:=g1 u hu
     exact⟨q1,q2,j,by omega,q4⟩
    rw[X14] at hu
    subst hu
    refine⟨?_,by dsimp only;omega,i,by omega,hkind⟩
    unfold okO
    rw[hkk.1,hkk.2]
    simp only[Bool.true_and,X27,decide_eq_true_eq]
    exact⟨trivial,by omega⟩
   rw[X14] at hv
   subst hv
   obtain⟨_,_,j,q3,q4⟩:=g1 u hu
   have:=hlt j q3 _ q4
   simpa[ltT] using this
  obtain⟨q1,q2,j,q3,q4⟩:=g1 u hu
  exact⟨q1,q2,j,by omega,q4⟩
 rintro⟨d,l⟩ ⟨⟨g1,g2,g3⟩,hd⟩
 dsimp only at g1 g2 g3 hd ⊢
 refine .ret ⟨⟨?_,hp.1,hp.2.1,hcs.2,hls.2,g3,fun u hu=>(g1 u hu).2⟩,hd⟩
 have hmed:=hmed.1
 have hpref:=hpref.1
 have hotc:=hotc.1
 simp only[List.mem_cons,List.not_mem_nil,or_false] at hmed hpref hotc
 rw[AP (by omega)]
 have hO:EM l=true:=by
  unfold EM
  rw[X27,Hu Ws,List.all_eq_true]
  exact⟨fun u hu=>(g1 u hu).1,g2⟩
 unfold Gp
 simp only[hO,hp.2.2,hnx,hcs.1,hls.1,Bool.true_and,X27,decide_eq_true_eq,Bool.or_eq_true,KA]
 omega
theorem TU {α ρ:Type}{K:Unit->Option ρ}{l:List α}{body:(Unit->Option ρ)->α->Nat->Unit->Option ρ}(h :∀next x (i:Nat),geti l (i:Int)=some x->body next x i ()=next ()):Ao K body l 0 ()=K ():=by
 have key :∀(t p:List α),l=p++t->Ao K body t p.length ()=K ():=by
  intro t
  induction t with
  | nil=>intro p _;rfl
  | cons x t ih=>
   intro p e
   show body (fun s=>Ao K body t (p.length+1) s) x p.length ()=_
   rw[h _ x p.length (by rw[e];exact NG p x t)]
   have:=ih (p++[x]) (by rw[e];simp)
   simpa using this
 exact key l [] rfl
theorem SI (l:List JAA):CL l l=some true:=by
 unfold CL
 rw[if_neg (by simp),AH]
 refine TU fun next x i hg=>?_
 rw[AH]
 simp only[hg,AC,bne_self_eq_false,cond_false,beq_self_eq_true,Bool.not_true]
 rfl
theorem XD (l:List JAB):EU l l=some true:=by
 unfold EU
 rw[if_neg (by simp),AH]
 refine TU fun next x i hg=>?_
 rw[hg,AC,(ZP x x).2 rfl]
 rfl
theorem XJ (l:List JAF):B5 l l=some true:=by
 unfold B5
 rw[if_neg (by simp),AH]
 refine TU fun next x i hg=>?_
 rw[hg,AC,(ZI x x).2 rfl]
 rfl
theorem Xo (l:List JAD):EW l l=some true:=by
 unfold EW
 rw[if_neg (by simp),AH]
 refine TU fun next x i hg=>?_
 rw[AH,AH,hg,AC,beq_self_eq_true,if_neg (by decide),AC]
 show (if (cond false true ((x.ASNs.length:Int) != (x.ASNs.length:Int)))=true then _ else _)=_
 rw[bne_self_eq_false,if_neg (by decide),AH]
 refine TU fun next x2 i2 hg2=>?_
 rw[AC,hg2,AC,bne_self_eq_false]
 rfl
theorem fG (a b:Addr):Addr.eqd a b=true↔a=b:=by
 unfold Addr.eqd
 simp only[X27,beq_iff_eq,Bool.and_true,Int.natCast_inj,UInt64.toNat_inj]
 constructor
 ·rintro⟨h1,h2,h3⟩;cases a;cases b;simp_all
 rintro rfl;exact⟨rfl,rfl,rfl⟩
theorem Si (a:JAC):DJ a a=some true:=by
 unfold DJ
 rw[AH,if_pos (by simp),Xo,AC,(fG _ _).2 rfl,XD,AC,XJ,AC,SI,AC,beq_self_eq_true,beq_self_eq_true,beq_self_eq_true]
 rfl
theorem Vh (a b:JAA):ltK HZ a b=ltT a b:=by
 unfold ltK HZ ltT
 rw[To,ae,X28,decide_eq_true_eq,decide_eq_true_eq]
 split
 ·simp[*]
 split<;>omega
theorem gQ {l:List JAA}(hl:l.length<=1000000){K:Unit->Option Bool} :
  Ao (σ:=Unit) K (fun next2 x3 i4 _=>
   AI (τ:=Bool) (fun k5=>
    if (decide (x3.Type_<1))=true then
     k5 true
    else
     if (cond false true (decide (x3.Type_ > 255)))=true then
      k5 true
     else
      Option.bind (DT x3.Type_) fun v6=>
      if (cond false true (!v6))=true then
       k5 true
      else
       if (cond false true (x3.Flags != 224))=true then
        k5 true
       else
        if (cond false true (decide ((x3.Data.length:Int) > 255)))=true then
         k5 true
        else
         if (decide ((i4:Int) > 0))=true then
          Option.bind (geti l (AN ((i4:Int)-1))) fun v7=>
          k5 (cond false true (cond true (decide (v7.Type_ ≥ x3.Type_)) false))
         else
          k5 false
   ) fun v8=>
   if v8=true then
    some false
   else
    next2 ()) l 0 ()=if EM l=true then K () else some false:=by
 have hok :∀x:JAA,okO x=!(decide (x.Type_<1) || (decide (x.Type_ > 255) || ((!unk x.Type_) || ((x.Flags != 224) || decide ((x.Data.length:Int) > 255))))):=by
  intro x
  unfold okO
  have e1:decide (1<=x.Type_/\x.Type_<=255)=(!decide (x.Type_<1)&&!decide (x.Type_ > 255)):=by rw[X28];simp
  have e2:decide (x.Flags=224)=!(x.Flags != 224):=by rw[X28];simp
  have e3:decide (x.Data.length<=255)=!decide ((x.Data.length:Int) > 255):=by rw[X28];simp;omega
  rw[e1,e2,e3]
  cases decide (x.Type_ < 1)<;>cases decide (x.Type_ > 255)<;>cases unk x.Type_<;>cases (x.Flags != 224)<;>cases decide ((x.Data.length:Int) > 255)<;>rfl
 refine cY (ok:=okO) (lt:=ltT) (by omega) (fun next x _=>?_) fun next x y i _ _ hg=>?_
 ·rw[AH,Is,AC,hok]
  cases decide (x.Type_ < 1)<;>cases decide (x.Type_ > 255)<;>cases unk x.Type_<;>cases (x.Flags != 224)<;>cases decide ((x.Data.length:Int) > 255)<;>rfl
 have e:decide (((i+1:Nat):Int) > 0)=true:=by simp
 have e2:decide (y.Type_ ≥ x.Type_)=!ltT y x:=by unfold ltT;rw[X28];simp
 rw[AH,Is,AC,hok,hg,AC,e,e2]
 cases decide (x.Type_ < 1)<;>cases decide (x.Type_ > 255)<;>cases unk x.Type_<;>cases (x.Flags != 224)<;>cases decide ((x.Data.length:Int) > 255)<;>cases ltT y x<;>rfl
theorem ZD {l:List JAA}(hl:l.length<=1000000):Db l=some (EM l&&decide (l.length<=8)):=by
 unfold Db
 rw[AH]
 have hok :∀x:JAA,okO x=(unk x.Type_&&((decide (1<=x.Type_)&&decide (x.Type_<=255))&&(!(x.Flags != 224)&&!decide ((x.Data.length:Int) > 255)))):=by
  intro x
  unfold okO
  have e1:decide (1<=x.Type_/\x.Type_<=255)=(decide (1<=x.Type_)&&decide (x.Type_<=255)):=by rw[X28];simp
  have e2:decide (x.Flags=224)=!(x.Flags != 224):=by rw[X28];simp
  have e3:decide (x.Data.length<=255)=!decide ((x.Data.length:Int) > 255):=by rw[X28];simp;omega
  rw[e1,e2,e3]
  cases decide (1<=x.Type_)<;>cases decide (x.Type_<=255)<;>cases unk x.Type_<;>cases (x.Flags != 224)<;>cases decide ((x.Data.length:Int) > 255)<;>rfl
 refine (cY (ok:=okO) (lt:=ltT) (F:=some false) (by omega) (fun next x _=>?_) fun next x y i _ _ hg=>?_).trans ?_
 ·rw[AH,D3,AC,GH,hok]
  cases decide (1<=x.Type_)<;>cases decide (x.Type_<=255)<;>cases unk x.Type_<;>cases (x.Flags != 224)<;>cases decide ((x.Data.length:Int) > 255)<;>rfl
 ·have e:decide (((i+1:Nat):Int) > 0)=true:=by simp
  have e2:decide (y.Type_ ≥ x.Type_)=!ltT y x:=by unfold ltT;rw[X28];simp
  rw[AH,D3,AC,GH,hok,hg,e]
  simp only[AC,e2]
  cases decide (1<=x.Type_)<;>cases decide (x.Type_<=255)<;>cases unk x.Type_<;>cases (x.Flags != 224)<;>cases decide ((x.Data.length:Int) > 255)<;>cases ltT y x<;>rfl
 have e:decide ((l.length:Int)<=8)=decide (l.length<=8):=by rw[X28];simp;omega
 rw[e]
 unfold EM
 generalize (l.all okO&&chainB ltT l)=b
 cases b<;>rfl
theorem S8 {a:JAC}(h:SmT a):GP a=some (Gp a):=by
 unfold GP
 rw[AH]
 refine (gQ h.o).trans ?_
 unfold Gp
 by_cases hO:EM a.Other=true
 rotate_left
 ·have hO:EM a.Other=false:=by simpa using hO
  rw[hO];rfl
 rw[hO,if_pos rfl,AH,Hw (by have:=h.p;omega) (by have:=h.t;omega),AC,E2,AC,KJ (by have:=h.c;omega),Hf (by have:=h.l;omega)]
 simp only[AC]
 have d1:decide (-1<=a.Origin/\a.Origin<=2)=(decide (a.Origin ≥ -1)&&decide (a.Origin<=2)):=by rw[X28];simp
 have d2:decide (-1<=a.MED/\a.MED<=4294967295)=(decide (a.MED ≥ -1)&&decide (a.MED<=4294967295)):=by rw[X28];simp
 have d3:decide (-1<=a.Pref/\a.Pref<=4294967295)=(decide (a.Pref ≥ -1)&&decide (a.Pref<=4294967295)):=by rw[X28];simp
 have d4:KA a.OTC=(decide (a.OTC ≥ 1)&&decide (a.OTC<=4294967295)):=rfl
 have d5:decide (a.OTC=-1)=(a.OTC==-1):=rfl
 have d6:decide (a.Other.length<=8)=decide ((a.Other.length:Int)<=8):=by rw[X28];simp;omega
 rw[d1,d2,d3,d4,d5,d6]
 generalize decide (a.Origin ≥ -1)=b1
 generalize decide (a.Origin<=2)=b2
 generalize GR a.Path=b3
 generalize a.Next.ok=b4
 generalize decide (a.MED ≥ -1)=b5
 generalize decide (a.MED<=4294967295)=b6
 generalize decide (a.Pref ≥ -1)=b7
 generalize decide (a.Pref<=4294967295)=b8
 generalize (a.OTC==-1)=b9
 generalize decide (a.OTC ≥ 1)=b10
 generalize decide (a.OTC<=4294967295)=b11
 generalize EY a.Communities=b12
 generalize ET a.JAF=b13
 generalize decide ((a.Other.length:Int)<=8)=b14
 cases b1
 ·rfl
 cases b2
 ·rfl
 cases b3
 ·rfl
 cases b4
 ·rfl
 cases b5
 ·rfl
 cases b6
 ·rfl
 cases b7
 ·rfl
 cases b8
 ·rfl
 cases b9<;>cases b10<;>cases b11<;>cases b12<;>cases b13<;>cases b14<;>rfl
theorem Q8 {a:JAC}(h:SmT a):DI a=some (Gp a):=by
 unfold DI Gp
 rw[AH,GH,AC,Jr (by have:=h.p;omega) (by have:=h.t;omega),AC,Eh,AC,GH,AC,GH,AC,IH (by have:=h.c;omega),GB (by have:=h.l;omega),ZD h.o,number_eq]
 simp only[AC]
 have d1:decide (-1<=a.Origin/\a.Origin<=2)=(decide (-1<=a.Origin)&&decide (a.Origin<=2)):=by rw[X28];simp
 have d2:decide (-1<=a.MED/\a.MED<=4294967295)=(decide (-1<=a.MED)&&decide (a.MED<=4294967295)):=by rw[X28];simp
 have d3:decide (-1<=a.Pref/\a.Pref<=4294967295)=(decide (-1<=a.Pref)&&decide (a.Pref<=4294967295)):=by rw[X28];simp
 have d4:KA a.OTC=(decide (1<=a.OTC)&&decide (a.OTC<=4294967295)):=rfl
 have d5:decide (a.OTC=-1)=(a.OTC==-1):=rfl
 rw[d1,d2,d3,d4,d5]
 generalize (decide (-1<=a.Origin)&&decide (a.Origin<=2))=b1
 generalize GR a.Path=b3
 generalize a.Next.ok=b4
 generalize (decide (-1<=a.MED)&&decide (a.MED<=4294967295))=b5
 generalize (decide (-1<=a.Pref)&&decide (a.Pref<=4294967295))=b7
 generalize (a.OTC==-1)=b9
 generalize (decide (1<=a.OTC)&&decide (a.OTC<=4294967295))=b10
 generalize EY a.Communities=b12
 generalize ET a.JAF=b13
 generalize EM a.Other=b14
 generalize decide (a.Other.length<=8)=b15
 cases b1
 ·simp
 cases b3
 ·simp
 cases b4
 ·simp
 cases b5
 ·simp
 cases b7
 ·simp
 cases b9<;>cases b10<;>cases b12<;>cases b13<;>cases b14<;>cases b15<;>rfl
def w4 (n:Int):List UInt8:=[(Aa (Int.fdiv n (2^(min (Int.toNat 24) 64)))),(Aa (Int.fdiv n (2^(min (Int.toNat 16) 64)))),(Aa (Int.fdiv n (2^(min (Int.toNat 8) 64)))),(Aa n)]
def w2 (n:Int):List UInt8:=[(Aa (Int.fdiv n (2^(min (Int.toNat 8) 64)))),(Aa n)]
theorem Wh (k n:Nat)(hk:k<64)(hn:n=8*k)(h8:k<9):min (Int.toNat ((AT (8*((AT (k:Int)).toNat:Int))).toNat:Int)) 64=min (Int.toNat (n:Int)) 64:=by
 have h1:(AT (k:Int)).toNat=k:=by
  unfold AT
  simp only[UInt64.toNat_ofNat']
  omega
 rw[h1]
 have h2:(AT (8*(k:Int))).toNat=n:=by
  unfold AT
  simp only[UInt64.toNat_ofNat']
  omega
 rw[h2]
theorem fdiv_one (n:Int):Int.fdiv n (2^(min (Int.toNat ((0:Nat):Int)) 64))=n:=by
 have:((2:Int)^(min (Int.toNat ((0:Nat):Int)) 64))=1:=rfl
 rw[this,Int.fdiv_one]
theorem X8 (v:Int){n:Int}(hn:n=4\/n=2):AS v n=some (if n=4 then w4 v else w2 v):=by
 unfold AS
 rw[AH]
 have s3:=Wh 3 24 (by omega) rfl (by omega)
 have s2:=Wh 2 16 (by omega) rfl (by omega)
 have s1:=Wh 1 8 (by omega) rfl (by omega)
 have s0:=Wh 0 0 (by omega) rfl (by omega)
 have s3:min (Int.toNat ((AT (8*((AT (3:Int)).toNat:Int))).toNat:Int)) 64=min (Int.toNat 24) 64:=s3
 have s2:min (Int.toNat ((AT (8*((AT (2:Int)).toNat:Int))).toNat:Int)) 64=min (Int.toNat 16) 64:=s2
 have s1:min (Int.toNat ((AT (8*((AT (1:Int)).toNat:Int))).toNat:Int)) 64=min (Int.toNat 8) 64:=s1
 have s0:min (Int.toNat ((AT (8*((AT (0:Int)).toNat:Int))).toNat:Int)) 64=min (Int.toNat ((0:Nat):Int)) 64:=s0
 refine (DW (fun s:Int×List UInt8=>(s.1=3\/s.1=2\/s.1=1\/s.1=0\/s.1=-1)/\s.2.length+(s.1+1).toNat<=4) (fun s=>(s.1+1).toNat) (fun s=>some (s.2++(w4 v).drop (3-s.1).toNat)) ?_ fuel (AN (n-1),[]) ?_ ?_).trans ?_
 ·rintro next ⟨i,l⟩ ⟨hi,hl⟩ hk
  dsimp only at hi hl ⊢
  rcases hi with rfl | rfl | rfl | rfl | rfl
  ·rw[if_pos (by decide),s3,AO (by decide) (by simp only[X22];omega),AC,AP (by omega),hk _ ⟨by simp,by simp only[X11,X22];omega⟩ (by simp only;omega)]
   simp[w4]
  ·rw[if_pos (by decide),s2,AO (by decide) (by simp only[X22];omega),AC,AP (by omega),hk _ ⟨by simp,by simp only[X11,X22];omega⟩ (by simp only;omega)]
   simp[w4]
  ·rw[if_pos (by decide),s1,AO (by decide) (by simp only[X22];omega),AC,AP (by omega),hk _ ⟨by simp,by simp only[X11,X22];omega⟩ (by simp only;omega)]
   simp[w4]
  ·rw[if_pos (by decide),s0,fdiv_one,AO (by decide) (by simp only[X22];omega),AC,AP (by omega),hk _ ⟨by simp,by simp only[X11,X22];omega⟩ (by simp only;omega)]
   simp[w4]
  rw[if_neg (by decide)]
  simp[w4]
 ·dsimp only
  rw[AP (by omega)]
  rcases hn with rfl | rfl
  ·exact⟨.inl rfl,by decide⟩
  exact⟨.inr (.inr (.inl rfl)),by decide⟩
 ·dsimp only
  rw[AP (by omega)]
  exact B2 (by omega)
 dsimp only
 rw[AP (by omega)]
 rcases hn with rfl | rfl<;>rfl
theorem Rk (v:Int):AS v 4=some (w4 v):=X8 v (.inl rfl)
theorem dE (v:Int):AS v 2=some (w2 v):=X8 v (.inr rfl)
theorem OV (n:Int):(w4 n).length=4:=rfl
theorem Ht (l:List Int):(l.flatMap w4).length=4*l.length:=by
 induction l with
 | nil=>rfl
 | cons x t ih=>rw[List.flatMap_cons,X11,ih,OV,X12];omega
theorem put_eq {b:List UInt8}{l:List Int}(h:b.length+4*l.length<=1000000000):DR b l=some (b++l.flatMap w4):=by
 unfold DR
 rw[AH]
 refine (Rn (g:=w4) (N:=1000000000) (by rw[Ht];omega) fun next x i v _ hv=>?_).trans rfl
 have e:([(Aa (Int.fdiv x (2^(min (Int.toNat 24) 64)))),(Aa (Int.fdiv x (2^(min (Int.toNat 16) 64)))),(Aa (Int.fdiv x (2^(min (Int.toNat 8) 64)))),(Aa x)]:List UInt8)=w4 x:=rfl
 rw[e,AO (by decide) hv,AC]
theorem MP (n:Int):BJ [n]=some (w4 n):=by
 have:BJ [n]=DR [] [n]:=rfl
 rw[this,put_eq (by simp)]
 rfl
def ZN (s:JAD):List UInt8:=[(if s.Set=true then (1:UInt8) else 2),Aa (s.ASNs.length:Int)]++s.ASNs.flatMap w4
def Ft (p:List JAD):List UInt8:=p.flatMap ZN
theorem R2 (s:JAD):(ZN s).length=2+4*s.ASNs.length:=by
 unfold ZN
 rw[X11,Ht];rfl
theorem Ou (p:List JAD):(Ft p).length=2*p.length+4*tot p:=by
 unfold Ft
 induction p with
 | nil=>rfl
 | cons s t ih=>rw[List.flatMap_cons,X11,ih,R2,X12,Ee];omega
theorem Yo {p:List JAD}(h:2*p.length+4*tot p<=100000000):Be p=some (Ft p):=by
 unfold Be
 rw[AH]
 have hl:=Ou p
 unfold Ft at hl ⊢
 refine (Rn (g:=ZN) (N:=100000000) (by rw[hl];simp only[X13];omega) fun next s i v _ hv=>?_).trans rfl
 rw[R2] at hv
 rw[JC,AO (by decide) (by simp;omega),AC,put_eq (by simp;omega),AC,List.append_assoc]
 rfl
theorem az {p:List JAD}(h:2*p.length+4*tot p<=100000000){ρ:Type}{K:List UInt8->Option ρ}:AI (τ:=(List UInt8)) (fun k7=>
     Ao (σ:=(List UInt8)) (fun v8=>
      k7 v8
     ) (fun next9 (x10:JAD) i11 v8=>
      AI (τ:=(List UInt8)) (fun k12=>
       AI (τ:=UInt8) (fun k13=>
        if x10.Set=true then
         k13 (1:UInt8)
        else
         k13 (2:UInt8)
       ) fun v14=>
       Option.bind (apnd (α:=UInt8) 1 v8 ([v14,(Aa (x10.ASNs.length:Int))]:List UInt8)) fun v15=>
       AI (τ:=(List UInt8)) (fun k16=>
        Ao (σ:=(List UInt8)) (fun v17=>
         k16 v17
        ) (fun next18 (x19:Int) i20 v17=>
         Option.bind (AS x19 4) fun v21=>
         Option.bind (apnd (α:=UInt8) 1 v17 v21) fun v22=>
         next18 v22
        ) x10.ASNs 0 v15
       ) fun v23=>
       k12 v23
      ) fun v24=>
      next9 v24
     ) p 0 ([]:List UInt8)
    ) K=K (Ft p):=by
 rw[AH]
 have hl:=Ou p
 unfold Ft at hl ⊢
 refine (Rn (g:=ZN) (N:=100000000) (by rw[hl];simp only[X13];omega) fun next s i v _ hv=>?_).trans rfl
 rw[R2] at hv
 rw[AH,JC,AO (by decide) (by simp;omega),AC,AH]
 refine (Rn (g:=w4) (N:=1000000000) (by rw[Ht];simp;omega) fun next x i v _ hv=>?_).trans ?_
 ·rw[Rk,AC,AO (by decide) hv,AC]
 rw[List.append_assoc]
 rfl
def IF (c:JAB):List UInt8:=w2 c.A++w2 c.B
def Gg (c:JAF):List UInt8:=w4 c.A++(w4 c.B++w4 c.C)
theorem OK (c:JAB):(IF c).length=4:=rfl
theorem ME (c:JAF):(Gg c).length=12:=rfl
theorem LN (l:List JAB):(l.flatMap IF).length=4*l.length:=by
 induction l with
 | nil=>rfl
 | cons x t ih=>rw[List.flatMap_cons,X11,ih,OK,X12];omega
theorem LW (l:List JAF):(l.flatMap Gg).length=12*l.length:=by
 induction l with
 | nil=>rfl
 | cons x t ih=>rw[List.flatMap_cons,X11,ih,ME,X12];omega
theorem Wq {a b:Nat}(h:a%256=b%256):UInt8.ofNat a=UInt8.ofNat b:=by
 apply UInt8.toNat_inj.1
 simp only[UInt8.toNat_ofNat']
 exact h
theorem fd (n k:Nat):Int.fdiv (n:Int) (2^(min (Int.toNat (k:Int)) 64))=((n/2^(min k 64):Nat):Int):=by
 rw[Int.toNat_natCast]
 have:((2:Int)^(min k 64))=((2^(min k 64):Nat):Int):=by simp
 rw[this,Int.fdiv_eq_ediv_of_nonneg _ (Int.natCast_nonneg _),Int.natCast_ediv]
theorem bF (n:Nat):w4 (n:Int)=[UInt8.ofNat (n/16777216),UInt8.ofNat (n/65536),UInt8.ofNat (n/256),UInt8.ofNat n]:=by
 have h1:=fd n 24
 have h2:=fd n 16
 have h3:=fd n 8
 have h1:Int.fdiv (n:Int) (2^(min (Int.toNat 24) 64))=((n/2^(min 24 64):Nat):Int):=h1
 have h2:Int.fdiv (n:Int) (2^(min (Int.toNat 16) 64))=((n/2^(min 16 64):Nat):Int):=h2
 have h3:Int.fdiv (n:Int) (2^(min (Int.toNat 8) 64))=((n/2^(min 8 64):Nat):Int):=h3
 unfold w4
 rw[h1,h2,h3,BU,BU,BU,BU]
 rfl
theorem XR (n:Nat):w2 (n:Int)=[UInt8.ofNat (n/256),UInt8.ofNat n]:=by
 have h3:=fd n 8
 have h3:Int.fdiv (n:Int) (2^(min (Int.toNat 8) 64))=((n/2^(min 8 64):Nat):Int):=h3
 unfold w2
 rw[h3,BU,BU]
 rfl
theorem Y0 {c:JAB}(h:okC c=true):w4 (AN ((BitVec.ofInt 64 (AN (c.A*(2^(min (Int.toNat 16) 64)))) ||| BitVec.ofInt 64 c.B).toNat:Int))=IF c:=by
 simp only[okC,inR,X27,decide_eq_true_eq] at h
 obtain⟨a,ha⟩ :∃a:Nat,c.A=a:=⟨c.A.toNat,by omega⟩
 obtain⟨b,hb⟩ :∃b:Nat,c.B=b:=⟨c.B.toNat,by omega⟩
 unfold IF
 rw[ha,hb] at h ⊢
 have e:((a:Int)*(2^(min (Int.toNat 16) 64)))=((a*65536:Nat):Int):=by
  have:min (Int.toNat 16) 64=16:=rfl
  rw[this];omega
 rw[e,AP (x:=((a*65536:Nat):Int)) (by omega),BitVec.ofInt_natCast,BitVec.ofInt_natCast,BitVec.toNat_or,BitVec.toNat_ofNat,BitVec.toNat_ofNat,Nat.mod_eq_of_lt (show a*65536<2^64 by omega),Nat.mod_eq_of_lt (show b<2^64 by omega),
  show a*65536=2^16*a by omega,<- Nat.two_pow_add_eq_or_of_lt (show b<2^16 by omega),AP (by omega),bF,XR,XR]
 have q1:(2^16*a+b)/16777216=a/256:=by omega
 have q2:(2^16*a+b)/65536=a:=by omega
 have q3:UInt8.ofNat ((2^16*a+b)/256)=UInt8.ofNat (b/256):=Wq (by omega)
 have q4:UInt8.ofNat (2^16*a+b)=UInt8.ofNat b:=Wq (by omega)
 rw[q1,q2,q3,q4]
 rfl
theorem XE {l:List JAB}(hv :∀c∈l,okC c=true)(h:l.length<=1000000):Bv l=some (l.flatMap IF):=by
 unfold Bv
 rw[AH]
 refine (Rn (g:=IF) (N:=100000000) (by rw[LN];simp only[X13];omega) fun next c i v hc hl=>?_).trans rfl
 rw[OK] at hl
 rw[put_eq (by simp;omega),AC,List.flatMap_cons,List.flatMap_nil,List.append_nil,Y0 (hv c hc)]
theorem XS {l:List JAF}(h:l.length<=1000000):Du l=some (l.flatMap Gg):=by
 unfold Du
 rw[AH]
 refine (Rn (g:=Gg) (N:=100000000) (by rw[LW];simp only[X13];omega) fun next c i v hc hl=>?_).trans rfl
 rw[ME] at hl
 rw[put_eq (by simp;omega),AC]
 simp[Gg]
def b4 (n:Nat):List UInt8:=[UInt8.ofNat (n/16777216),UInt8.ofNat (n/65536),UInt8.ofNat (n/256),UInt8.ofNat n]
theorem QC {x:UInt64}{k n:Nat}(hn:n=8*k)(hk:k<8)(hx:x.toNat<4294967296):Aa ((AT (Int.fdiv (x.toNat:Int) (2^(min (Int.toNat (n:Int)) 64)))).toNat:Int)=UInt8.ofNat (x.toNat/2^n):=by
 rw[fd,Nat.min_eq_left (by omega),BP,BU]
 congr 1
 rw[UInt64.toNat_ofNat',Nat.mod_eq_of_lt]
 exact Nat.lt_of_le_of_lt (Nat.div_le_self _ _) (by omega)
theorem Addr.four {a:Addr}(h:a.ok=true)(h6:a.V6=false):a.Hi.toNat=0/\a.Lo.toNat<4294967296:=by
 unfold Addr.ok at h
 rw[h6,cond_false] at h
 cases h1:((a.Hi.toNat:Int)==0)
 ·rw[h1] at h;simp at h
 rw[h1,cond_true,decide_eq_true_eq] at h
 simp only[beq_iff_eq] at h1
 omega
theorem Yl {a:Addr}(h:a.ok=true)(h6:a.V6=false):Bg a=some (b4 a.Lo.toNat):=by
 obtain⟨_,hlo⟩:=Addr.four h h6
 unfold Bg
 rw[E2,AC,h,if_neg (by decide),AH,h6,if_neg (by decide)]
 show AI _ _=_
 rw[AH]
 have s3:=Wh 3 24 (by omega) rfl (by omega)
 have s2:=Wh 2 16 (by omega) rfl (by omega)
 have s1:=Wh 1 8 (by omega) rfl (by omega)
 have s0:=Wh 0 0 (by omega) rfl (by omega)
 have s3:min (Int.toNat ((AT (8*((AT (Int.tmod 3 8)).toNat:Int))).toNat:Int)) 64=min (Int.toNat ((24:Nat):Int)) 64:=s3
 have s2:min (Int.toNat ((AT (8*((AT (Int.tmod 2 8)).toNat:Int))).toNat:Int)) 64=min (Int.toNat ((16:Nat):Int)) 64:=s2
 have s1:min (Int.toNat ((AT (8*((AT (Int.tmod 1 8)).toNat:Int))).toNat:Int)) 64=min (Int.toNat ((8:Nat):Int)) 64:=s1
 have s0:min (Int.toNat ((AT (8*((AT (Int.tmod 0 8)).toNat:Int))).toNat:Int)) 64=min (Int.toNat ((0:Nat):Int)) 64:=s0
 refine (DW (fun s:Int×List UInt8=>(s.1=3\/s.1=2\/s.1=1\/s.1=0\/s.1=-1)/\s.2.length+(s.1+1).toNat<=4) (fun s=>(s.1+1).toNat) (fun s=>some (s.2++(b4 a.Lo.toNat).drop (3-s.1).toNat)) ?_ fuel (AN (4-1),[]) ?_ ?_).trans ?_
 ·rintro next ⟨i,l⟩ ⟨hi,hl⟩ hk
  dsimp only at hi hl ⊢
  rcases hi with rfl | rfl | rfl | rfl | rfl
  ·rw[if_pos (by decide),AH,if_neg (by decide),s3]
   show Option.bind _ _=_
   rw[QC (n:=24) (k:=3) rfl (by omega) hlo,AO (by decide) (by simp only[X22];omega),AC,AP (by omega),hk _ ⟨by simp,by simp only[X11,X22];omega⟩ (by simp only;omega)]
   simp[b4]
  ·rw[if_pos (by decide),AH,if_neg (by decide),s2]
   show Option.bind _ _=_
   rw[QC (n:=16) (k:=2) rfl (by omega) hlo,AO (by decide) (by simp only[X22];omega),AC,AP (by omega),hk _ ⟨by simp,by simp only[X11,X22];omega⟩ (by simp only;omega)]
   simp[b4]
  ·rw[if_pos (by decide),AH,if_neg (by decide),s1]
   show Option.bind _ _=_
   rw[QC (n:=8) (k:=1) rfl (by omega) hlo,AO (by decide) (by simp only[X22];omega),AC,AP (by omega),hk _ ⟨by simp,by simp only[X11,X22];omega⟩ (by simp only;omega)]
   simp[b4]
  ·rw[if_pos (by decide),AH,if_neg (by decide),s0]
   show Option.bind _ _=_
   rw[QC (n:=0) (k:=0) rfl (by omega) hlo,AO (by decide) (by simp only[X22];omega),AC,AP (by omega),hk _ ⟨by simp,by simp only[X11,X22];omega⟩ (by simp only;omega)]
   simp[b4]
  rw[if_neg (by decide)]
  simp[b4]
 ·dsimp only
  rw[AP (by omega)]
  exact⟨.inl rfl,by decide⟩
 ·dsimp only
  rw[AP (by omega)]
  exact B2 (by omega)
 dsimp only
 rw[AP (by omega)]
 rfl
theorem Zv {x:UInt64}{h:UInt64}(hx:x.toNat<4294967296)(hh:h.toNat=0):(AT ((BitVec.ofInt 64 ((AT (Int.fdiv (x.toNat:Int) (2^(min (Int.toNat 8) 64)))).toNat:Int) ||| BitVec.ofInt 64 ((AT ((h.toNat:Int)*(2^(min (Int.toNat 56) 64)))).toNat:Int)).toNat:Int)).toNat=x.toNat/256/\
  (AT (Int.fdiv (h.toNat:Int) (2^(min (Int.toNat 8) 64)))).toNat=0:=by
 have e1:Int.fdiv (x.toNat:Int) (2^(min (Int.toNat 8) 64))=((x.toNat/256:Nat):Int):=fd x.toNat 8
 have e2:Int.fdiv (h.toNat:Int) (2^(min (Int.toNat 8) 64))=((h.toNat/256:Nat):Int):=fd h.toNat 8
 rw[e1,e2,hh,BP]
 have e3:(((0:Nat):Int)*(2^(min (Int.toNat 56) 64)))=((0:Nat):Int):=by simp
 rw[e3,BP,BP]
 have e4:(UInt64.ofNat 0).toNat=0:=rfl
 have e5:(UInt64.ofNat (x.toNat/256)).toNat=x.toNat/256:=by rw[UInt64.toNat_ofNat'];omega
 rw[e4,e5,BitVec.ofInt_natCast,BitVec.ofInt_natCast,BitVec.toNat_or,BitVec.toNat_ofNat,BitVec.toNat_ofNat,Nat.zero_mod,Nat.or_zero,Nat.mod_eq_of_lt (by omega)]
 exact⟨e5,rfl⟩
theorem Wv {a:Addr}(h:a.ok=true)(h6:a.V6=false):BM a=some (b4 a.Lo.toNat):=by
 obtain⟨hhi,hlo⟩:=Addr.four h h6
 unfold BM
 rw[Eh,AC,h,if_neg (by decide),AH,h6,if_neg (by decide)]
 have ck:chk ((0:Int)<=4/\(4:Int)<=4/\(4:Int)<=1048576)=some ():=by unfold chk;rw[if_pos (by decide)]
 show Option.bind (chk ((0:Int)<=4/\(4:Int)<=4/\(4:Int)<=1048576)) _=_
 rw[ck,AC,AH]
 refine (DW (fun s:Int×Addr×List UInt8=>∃j:Nat,j<=4/\s.1=3-(j:Int)/\s.2.1.Hi.toNat=0/\s.2.1.Lo.toNat=a.Lo.toNat/256^j/\s.2.2=List.replicate (4-j) 0++(b4 a.Lo.toNat).drop (4-j)) (fun s=>(s.1+1).toNat) (fun s=>some (b4 a.Lo.toNat)) ?_ fuel (AN (4-1),a,List.replicate (Int.toNat 4) (0:UInt8)) ?_ ?_).trans rfl
 ·rintro next ⟨i,x,l⟩ ⟨j,hj,h1,h2,h3,h4⟩ hk
  dsimp only at h1 h2 h3 h4 ⊢
  subst h1
  have hx:x.Lo.toNat<4294967296:=by
   rw[h3];exact Nat.lt_of_le_of_lt (Nat.div_le_self _ _) hlo
  obtain⟨s1,s2⟩:=Zv hx h2
  have hlt:j=4\/j<4:=by omega
  rcases hlt with rfl | hlt
  ·rw[if_neg (by decide),h4]
   simp[b4]
  have hlen:l.length=4:=by rw[h4];simp[b4]<;>omega
  have hg :∃y,geti l (3-(j:Int))=some y:=by
   obtain⟨y,hy,_⟩:=Ok.geti (l:=l) (i:=3-(j:Int)) (by omega)
   exact⟨y,hy⟩
  obtain⟨y,hy⟩:=hg
  have hs:seti l (3-(j:Int)) (Aa (x.Lo.toNat:Int))=some (l.set (3-j) (UInt8.ofNat x.Lo.toNat)):=by
   unfold seti
   rw[if_pos (by omega),BU]
   congr 2
   omega
  rw[if_pos (by simp only[decide_eq_true_eq];omega),hy,AC,hs,AC,AP (by omega)]
  refine hk _ ⟨j+1,by omega,by simp only;omega,s2,?_,?_⟩ (by simp only;omega)
  ·simp only
   rw[s1,h3,Nat.div_div_eq_div_mul,Nat.pow_succ]
  simp only
  rw[h4,h3]
  match j,hlt with
  | 0,_=>simp[b4]
  | 1,_=>simp[b4]
  | 2,_=>simp[b4]
  | 3,_=>simp[b4]
 ·refine⟨0,by omega,by dsimp only;rw[AP (by omega)];rfl,hhi,by simp,?_⟩
  simp[b4]
 dsimp only
 rw[AP (by omega)]
 exact B2 (by omega)
theorem ad (a:Addr) :∃r,BM a=some r:=by
 have:Ok (BM a) fun _=>True:=by
  unfold BM
  rw[Eh]
  refine .bind (P:=fun _=>True) ⟨_,rfl,trivial⟩ fun v _=>.ite (fun _=>.ret trivial) fun _=>?_
  refine .join (fun n:Int=>n=16\/n=4) (fun k hk=>.ite (fun _=>hk _ (.inl rfl)) fun _=>hk _ (.inr rfl)) fun n hn=>?_
  refine .bind (Ok.chk (by omega)) fun _ _=>.join (fun _=>True) (fun k hk=>?_) fun _ _=>.ret trivial
  refine .whileI (fun s:Int×Addr×List UInt8=>-1<=s.1/\s.1<n/\(s.2.2.length:Int)=n) (fun s=>(s.1+1).toNat) ⟨by dsimp only;rw[AP (by omega)];omega,by dsimp only;rw[AP (by omega)];omega,by dsimp only;rw[X20];omega⟩ (B2 (by dsimp only;rw[AP (by omega)];omega)) ?_
  rintro next ⟨i,x,l⟩ ⟨h1,h2,h3⟩ hnx
  dsimp only at h1 h2 h3 ⊢
  refine .ite (fun h=>?_) fun _=>hk _ trivial
  simp only[decide_eq_true_eq] at h
  refine .bind (.geti (by omega)) fun _ _=>.bind (.seti (by omega)) fun l2 hl2=>?_
  rw[AP (by omega)]
  exact hnx _ ⟨by dsimp only;omega,by dsimp only;omega,by dsimp only;omega⟩ (by dsimp only;omega)
 obtain⟨r,h,_⟩:=this
 exact⟨r,h⟩
def Fz (a:JAC):Bool:=!a.Next.V6&&!(Addr.eqd a.Next ⟨false,0,0⟩)
def G (a:JAC)(k:Int):Option (List UInt8):=
 if k=1 then (if a.Origin≠-1 then some [Aa a.Origin] else none) else
 if k=2 then (if a.Origin≠-1\/a.Path≠[] then some (Ft a.Path) else none) else
 if k=3 then (if Fz a=true then some (b4 a.Next.Lo.toNat) else none) else
 if k=4 then (if a.MED≠-1 then some (w4 a.MED) else none) else
 if k=5 then (if a.Pref≠-1 then some (w4 a.Pref) else none) else
 if k=8 then (if a.Communities≠[] then some (a.Communities.flatMap IF) else none) else
 if k=32 then (if a.JAF≠[] then some (a.JAF.flatMap Gg) else none) else
 if k=35 then (if a.OTC≠-1 then some (w4 a.OTC) else none) else none
def ent (a:JAC)(k:Int):List JAA:=match G a k with
 | some b=>[⟨fl k,k,b⟩]
 | none=>[]
def ofK (l:List JAA)(k:Int):List JAA:=l.flatMap fun x=>if (x.Type_==k)=true then [x] else []
def wrS (a:JAC):List JAA:=(List.range' 0 256).flatMap fun (k:Nat)=>ent a k++ofK a.Other k
theorem OX {a:JAC}{k:Int}(h:fl k=0):G a k=none:=by
 rcases FH k with ⟨_,e⟩|⟨_,e⟩|⟨_,e⟩|⟨_,e⟩|⟨_,e⟩|⟨_,e⟩|⟨_,e⟩|⟨_,e⟩|⟨e1,e2,e3,e4,e5,e6,e7,e8,_⟩
 iterate 8 (rw[e] at h;exact absurd h (by decide))
 unfold G
 rw[if_neg e1,if_neg e2,if_neg e3,if_neg e4,if_neg e5,if_neg e6,if_neg e7,if_neg e8]
theorem QF {l:List JAA}{k:Int}{y:JAA}:y∈ofK l k↔y∈l/\y.Type_=k:=by
 unfold ofK
 rw[List.mem_flatMap]
 constructor
 ·rintro⟨x,hx,h⟩
  split at h
  ·rename_i hc
   rw[X14] at h
   subst h
   exact⟨hx,by simpa using hc⟩
  simp at h
 rintro⟨hy,e⟩
 exact⟨y,hy,by rw[if_pos (by simpa using e)];simp⟩
theorem Fv {a:JAC}{k:Int}{y:JAA}:y∈ent a k ↔∃b,G a k=some b/\y=⟨fl k,k,b⟩:=by
 unfold ent
 cases G a k with
 | none=>simp
 | some b=>simp
theorem M9 {a:JAC}{k:Int}{y:JAA}(h:y∈ent a k):y.Type_=k:=by
 obtain⟨b,_,rfl⟩:=Fv.1 h
 rfl
theorem Ji {a:JAC}(hO:EM a.Other=true){y:JAA}:y∈wrS a↔(∃k,y∈ent a k)\/y∈a.Other:=by
 unfold wrS
 simp only[List.mem_flatMap,List.mem_range'_1,X23]
 constructor
 ·rintro⟨k,hk,h | h⟩
  ·exact .inl ⟨_,h⟩
  exact .inr (QF.1 h).1
 rintro (⟨k,h⟩|h)
 ·obtain⟨b,hb,_⟩:=Fv.1 h
  have hk:0<=k/\k<256:=by
   rcases FH k with ⟨e,_⟩|⟨e,_⟩|⟨e,_⟩|⟨e,_⟩|⟨e,_⟩|⟨e,_⟩|⟨e,_⟩|⟨e,_⟩|e
   iterate 8 omega
   rw[OX e.2.2.2.2.2.2.2.2] at hb;cases hb
  refine⟨k.toNat,by omega,.inl ?_⟩
  rw[show ((k.toNat:Nat):Int)=k by omega]
  exact h
 unfold EM at hO
 rw[X27,List.all_eq_true] at hO
 have:=hO.1 y h
 simp only[okO,X27,decide_eq_true_eq] at this
 exact⟨y.Type_.toNat,by omega,.inr (QF.2 ⟨h,by omega⟩)⟩
theorem EC {l:List JAA}(hO:EM l=true){x:JAA}(h:x∈l):unk x.Type_=true/\1<=x.Type_/\x.Type_<=255/\x.Flags=224/\x.Data.length<=255:=by
 unfold EM at hO
 rw[X27,List.all_eq_true] at hO
 have:=hO.1 x h
 simp only[okO,X27,decide_eq_true_eq] at this
 exact⟨this.2.1,this.1.1,this.1.2,this.2.2.1,this.2.2.2⟩
theorem UY {t:Int}(h:unk t=true):fl t=0:=by
 simp only[unk,X27,decide_eq_true_eq] at h
 exact h.1
theorem JK {l:List JAA}(hO:EM l=true):l.Pairwise fun a b=>ltT a b=true:=by
 unfold EM at hO
 rw[X27] at hO
 exact (Hu Ws).1 hO.2
theorem OT {a:JAC}(hO:EM a.Other=true):(wrS a).Pairwise fun a b=>ltK HZ a b=true:=by
 unfold wrS
 rw[List.pairwise_flatMap]
 have ht :∀(k:Nat) y,y∈ent a k++ofK a.Other k->y.Type_=k:=by
  intro k y hy
  rcases X23.1 hy with h | h
  ·exact M9 h
  exact (QF.1 h).2
 constructor
 ·intro k _
  rw[List.pairwise_append]
  refine⟨?_,?_,?_⟩
  ·unfold ent
   split
   ·exact List.pairwise_singleton _ _
   exact .nil
  ·unfold ofK
   rw[List.pairwise_flatMap]
   refine⟨fun x _=>OQ,(JK hO).imp fun {p q} hpq x hx y hy=>?_⟩
   have e1:p.Type_=k:=by
    split at hx
    ·simpa using ‹(p.Type_==(k:Int))=true›
    simp at hx
   have e2:q.Type_=k:=by
    split at hy
    ·simpa using ‹(q.Type_==(k:Int))=true›
    simp at hy
   simp only[ltT,decide_eq_true_eq] at hpq
   omega
  intro x hx y hy
  obtain⟨b,hb,_⟩:=Fv.1 hx
  obtain⟨hy1,hy2⟩:=QF.1 hy
  have:=UY (EC hO hy1).1
  rw[hy2] at this
  rw[OX this] at hb;cases hb
 refine (List.pairwise_lt_range' (s:=0) (n:=256)).imp fun {p q} hpq x hx y hy=>?_
 have e1:=ht p x hx
 have e2:=ht q y hy
 rw[Vh]
 simp only[ltT,decide_eq_true_eq]
 omega
theorem Uw {a:JAC}(hO:EM a.Other=true):Ip (wrS a):=(OT hO).imp fun {p q} h e=>by
 rw[Vh] at h
 simp only[ltT,decide_eq_true_eq] at h
 omega
def WR3 (a0:JAC)(v26:List (Int×(List UInt8))):Option ((List JAA)×Int):=
 AI (τ:=Bool) (fun k27=>
  if (!(Addr.eqd a0.Next (⟨false,(0:UInt64),(0:UInt64)⟩:Addr))) then
   k27 (cond true (!a0.Next.V6) false)
  else
   k27 false
 ) fun v28=>
 AI (τ:=(List (Int×(List UInt8)))) (fun k29=>
  if v28 then
   Option.bind (Bg a0.Next) fun v30=>
   k29 (Cc v26 3 v30)
  else
   k29 v26
 ) fun v31=>
 AI (τ:=(List (Int×(List UInt8)))) (fun k32=>
  if (decide (a0.MED ≥ 0)) then
   Option.bind (AS a0.MED 4) fun v33=>
   k32 (Cc v31 4 v33)
  else
   k32 v31
 ) fun v34=>
 AI (τ:=(List (Int×(List UInt8)))) (fun k35=>
  if (decide (a0.Pref ≥ 0)) then
   Option.bind (AS a0.Pref 4) fun v36=>
   k35 (Cc v34 5 v36)
  else
   k35 v34
 ) fun v37=>
 AI (τ:=(List (Int×(List UInt8)))×(List UInt8)) (fun k38=>
  Option.bind (chk ((BB v37 8).isNone=true)) fun _=>
  Ao (σ:=(List (Int×(List UInt8)))×(List UInt8)) (fun (v39,v40)=>
   k38 (v39,v40)
  ) (fun next41 (x42:JAB) i43 (v39,v40)=>
   Option.bind (AS x42.A 2) fun v44=>
   Option.bind (apnd (α:=UInt8) 1 v40 v44) fun v45=>
   Option.bind (AS x42.B 2) fun v46=>
   Option.bind (apnd (α:=UInt8) 1 v45 v46) fun v47=>
   next41 ((Cc v39 8 v47),v47)
  ) a0.Communities 0 (v37,[])
 ) fun (v48,v49)=>
 AI (τ:=(List (Int×(List UInt8)))×(List UInt8)) (fun k50=>
  Option.bind (chk ((BB v48 32).isNone=true)) fun _=>
  Ao (σ:=(List (Int×(List UInt8)))×(List UInt8)) (fun (v51,v52)=>
   k50 (v51,v52)
  ) (fun next53 (x54:JAF) i55 (v51,v52)=>
   Option.bind (AS x54.A 4) fun v56=>
   Option.bind (apnd (α:=UInt8) 1 v52 v56) fun v57=>
   Option.bind (AS x54.B 4) fun v58=>
   Option.bind (apnd (α:=UInt8) 1 v57 v58) fun v59=>
   Option.bind (AS x54.C 4) fun v60=>
   Option.bind (apnd (α:=UInt8) 1 v59 v60) fun v61=>
   next53 ((Cc v51 32 v61),v61)
  ) a0.JAF 0 (v48,[])
 ) fun (v62,v63)=>
 AI (τ:=(List (Int×(List UInt8)))) (fun k64=>
  if (decide (a0.OTC ≥ 0)) then
   Option.bind (AS a0.OTC 4) fun v65=>
   k64 (Cc v62 35 v65)
  else
   k64 v62
 ) fun v66=>
 AI (τ:=(List JAA)) (fun k67=>
  A6 (σ:=Int×(List JAA)) (fun next68 (v69,v70)=>
   if (decide (v69<256)) then
    AI (τ:=(List JAA)) (fun k71=>
     Option.bind (some (Option.getD (BB v66 v69) [])) fun v72=>
     Option.bind (some (Option.isSome (BB v66 v69))) fun v73=>
     AI (τ:=(List JAA)) (fun k74=>
      if v73 then
       Option.bind (Bc v69) fun v75=>
       Option.bind (apnd (α:=UInt8) 1 [] v72) fun _=>
       Option.bind (apnd (α:=JAA) 40 v70 ([(⟨v75,v69,v72⟩:JAA)]:List JAA)) fun v76=>
       k74 v76
      else
       k74 v70
     ) fun v77=>
     AI (τ:=(List JAA)) (fun k78=>
      Ao (σ:=(List JAA)) (fun v79=>
       k78 v79
      ) (fun next80 (x81:JAA) i82 v79=>
       AI (τ:=(List JAA)) (fun k83=>
        if (x81.Type_==v69) then
         Option.bind (apnd (α:=UInt8) 1 [] x81.Data) fun _=>
         Option.bind (apnd (α:=JAA) 40 v79 ([{ x81 with Type_:=v69 }]:List JAA)) fun v84=>
         k83 v84
        else
         k83 v79
       ) fun v85=>
       next80 v85
      ) a0.Other 0 v77
     ) fun v86=>
     k71 v86
    ) fun v87=>
    next68 ((AN (v69+1)),v87)
   else
    k67 v70
  ) fuel (0,[])
 ) fun v88=>
 some (v88,0)
def WR4 (a0:JAC)(v31:List (Int×(List UInt8))):Option ((List JAA)×Int):=
 AI (τ:=(List (Int×(List UInt8)))) (fun k32=>
  if (decide (a0.MED ≥ 0)) then
   Option.bind (AS a0.MED 4) fun v33=>
   k32 (Cc v31 4 v33)
  else
   k32 v31
 ) fun v34=>
 AI (τ:=(List (Int×(List UInt8)))) (fun k35=>
  if (decide (a0.Pref ≥ 0)) then
   Option.bind (AS a0.Pref 4) fun v36=>
   k35 (Cc v34 5 v36)
  else
   k35 v34
 ) fun v37=>
 AI (τ:=(List (Int×(List UInt8)))×(List UInt8)) (fun k38=>
  Option.bind (chk ((BB v37 8).isNone=true)) fun _=>
  Ao (σ:=(List (Int×(List UInt8)))×(List UInt8)) (fun (v39,v40)=>
   k38 (v39,v40)
  ) (fun next41 (x42:JAB) i43 (v39,v40)=>
   Option.bind (AS x42.A 2) fun v44=>
   Option.bind (apnd (α:=UInt8) 1 v40 v44) fun v45=>
   Option.bind (AS x42.B 2) fun v46=>
   Option.bind (apnd (α:=UInt8) 1 v45 v46) fun v47=>
   next41 ((Cc v39 8 v47),v47)
  ) a0.Communities 0 (v37,[])
 ) fun (v48,v49)=>
 AI (τ:=(List (Int×(List UInt8)))×(List UInt8)) (fun k50=>
  Option.bind (chk ((BB v48 32).isNone=true)) fun _=>
  Ao (σ:=(List (Int×(List UInt8)))×(List UInt8)) (fun (v51,v52)=>
   k50 (v51,v52)
  ) (fun next53 (x54:JAF) i55 (v51,v52)=>
   Option.bind (AS x54.A 4) fun v56=>
   Option.bind (apnd (α:=UInt8) 1 v52 v56) fun v57=>
   Option.bind (AS x54.B 4) fun v58=>
   Option.bind (apnd (α:=UInt8) 1 v57 v58) fun v59=>
   Option.bind (AS x54.C 4) fun v60=>
   Option.bind (apnd (α:=UInt8) 1 v59 v60) fun v61=>
   next53 ((Cc v51 32 v61),v61)
  ) a0.JAF 0 (v48,[])
 ) fun (v62,v63)=>
 AI (τ:=(List (Int×(List UInt8)))) (fun k64=>
  if (decide (a0.OTC ≥ 0)) then
   Option.bind (AS a0.OTC 4) fun v65=>
   k64 (Cc v62 35 v65)
  else
   k64 v62
 ) fun v66=>
 AI (τ:=(List JAA)) (fun k67=>
  A6 (σ:=Int×(List JAA)) (fun next68 (v69,v70)=>
   if (decide (v69<256)) then
    AI (τ:=(List JAA)) (fun k71=>
     Option.bind (some (Option.getD (BB v66 v69) [])) fun v72=>
     Option.bind (some (Option.isSome (BB v66 v69))) fun v73=>
     AI (τ:=(List JAA)) (fun k74=>
      if v73 then
       Option.bind (Bc v69) fun v75=>
       Option.bind (apnd (α:=UInt8) 1 [] v72) fun _=>
       Option.bind (apnd (α:=JAA) 40 v70 ([(⟨v75,v69,v72⟩:JAA)]:List JAA)) fun v76=>
       k74 v76
      else
       k74 v70
     ) fun v77=>
     AI (τ:=(List JAA)) (fun k78=>
      Ao (σ:=(List JAA)) (fun v79=>
       k78 v79
      ) (fun next80 (x81:JAA) i82 v79=>
       AI (τ:=(List JAA)) (fun k83=>
        if (x81.Type_==v69) then
         Option.bind (apnd (α:=UInt8) 1 [] x81.Data) fun _=>
         Option.bind (apnd (α:=JAA) 40 v79 ([{ x81 with Type_:=v69 }]:List JAA)) fun v84=>
         k83 v84
        else
         k83 v79
       ) fun v85=>
       next80 v85
      ) a0.Other 0 v77
     ) fun v86=>
     k71 v86
    ) fun v87=>
    next68 ((AN (v69+1)),v87)
   else
    k67 v70
  ) fuel (0,[])
 ) fun v88=>
 some (v88,0)
def WR5 (a0:JAC)(v34:List (Int×(List UInt8))):Option ((List JAA)×Int):=
 AI (τ:=(List (Int×(List UInt8)))) (fun k35=>
  if (decide (a0.Pref ≥ 0)) then
   Option.bind (AS a0.Pref 4) fun v36=>
   k35 (Cc v34 5 v36)
  else
   k35 v34
 ) fun v37=>
 AI (τ:=(List (Int×(List UInt8)))×(List UInt8)) (fun k38=>
  Option.bind (chk ((BB v37 8).isNone=true)) fun _=>
  Ao (σ:=(List (Int×(List UInt8)))×(List UInt8)) (fun (v39,v40)=>
   k38 (v39,v40)
  ) (fun next41 (x42:JAB) i43 (v39,v40)=>
   Option.bind (AS x42.A 2) fun v44=>
   Option.bind (apnd (α:=UInt8) 1 v40 v44) fun v45=>
   Option.bind (AS x42.B 2) fun v46=>
   Option.bind (apnd (α:=UInt8) 1 v45 v46) fun v47=>
   next41 ((Cc v39 8 v47),v47)
  ) a0.Communities 0 (v37,[])
 ) fun (v48,v49)=>
 AI (τ:=(List (Int×(List UInt8)))×(List UInt8)) (fun k50=>
  Option.bind (chk ((BB v48 32).isNone=true)) fun _=>
  Ao (σ:=(List (Int×(List UInt8)))×(List UInt8)) (fun (v51,v52)=>
   k50 (v51,v52)
  ) (fun next53 (x54:JAF) i55 (v51,v52)=>
   Option.bind (AS x54.A 4) fun v56=>
   Option.bind (apnd (α:=UInt8) 1 v52 v56) fun v57=>
   Option.bind (AS x54.B 4) fun v58=>
   Option.bind (apnd (α:=UInt8) 1 v57 v58) fun v59=>
   Option.bind (AS x54.C 4) fun v60=>
   Option.bind (apnd (α:=UInt8) 1 v59 v60) fun v61=>
   next53 ((Cc v51 32 v61),v61)
  ) a0.JAF 0 (v48,[])
 ) fun (v62,v63)=>
 AI (τ:=(List (Int×(List UInt8)))) (fun k64=>
  if (decide (a0.OTC ≥ 0)) then
   Option.bind (AS a0.OTC 4) fun v65=>
   k64 (Cc v62 35 v65)
  else
   k64 v62
 ) fun v66=>
 AI (τ:=(List JAA)) (fun k67=>
  A6 (σ:=Int×(List JAA)) (fun next68 (v69,v70)=>
   if (decide (v69<256)) then
    AI (τ:=(List JAA)) (fun k71=>
     Option.bind (some (Option.getD (BB v66 v69) [])) fun v72=>
     Option.bind (some (Option.isSome (BB v66 v69))) fun v73=>
     AI (τ:=(List JAA)) (fun k74=>
      if v73 then
       Option.bind (Bc v69) fun v75=>
       Option.bind (apnd (α:=UInt8) 1 [] v72) fun _=>
       Option.bind (apnd (α:=JAA) 40 v70 ([(⟨v75,v69,v72⟩:JAA)]:List JAA)) fun v76=>
       k74 v76
      else
       k74 v70
     ) fun v77=>
     AI (τ:=(List JAA)) (fun k78=>
      Ao (σ:=(List JAA)) (fun v79=>
       k78 v79
      ) (fun next80 (x81:JAA) i82 v79=>
       AI (τ:=(List JAA)) (fun k83=>
        if (x81.Type_==v69) then
         Option.bind (apnd (α:=UInt8) 1 [] x81.Data) fun _=>
         Option.bind (apnd (α:=JAA) 40 v79 ([{ x81 with Type_:=v69 }]:List JAA)) fun v84=>
         k83 v84
        else
         k83 v79
       ) fun v85=>
       next80 v85
      ) a0.Other 0 v77
     ) fun v86=>
     k71 v86
    ) fun v87=>
    next68 ((AN (v69+1)),v87)
   else
    k67 v70
  ) fuel (0,[])
 ) fun v88=>
 some (v88,0)
def WR8 (a0:JAC)(v37:List (Int×(List UInt8))):Option ((List JAA)×Int):=
 AI (τ:=(List (Int×(List UInt8)))×(List UInt8)) (fun k38=>
  Option.bind (chk ((BB v37 8).isNone=true)) fun _=>
  Ao (σ:=(List (Int×(List UInt8)))×(List UInt8)) (fun (v39,v40)=>
   k38 (v39,v40)
  ) (fun next41 (x42:JAB) i43 (v39,v40)=>
   Option.bind (AS x42.A 2) fun v44=>
   Option.bind (apnd (α:=UInt8) 1 v40 v44) fun v45=>
   Option.bind (AS x42.B 2) fun v46=>
   Option.bind (apnd (α:=UInt8) 1 v45 v46) fun v47=>
   next41 ((Cc v39 8 v47),v47)
  ) a0.Communities 0 (v37,[])
 ) fun (v48,v49)=>
 AI (τ:=(List (Int×(List UInt8)))×(List UInt8)) (fun k50=>
  Option.bind (chk ((BB v48 32).isNone=true)) fun _=>
  Ao (σ:=(List (Int×(List UInt8)))×(List UInt8)) (fun (v51,v52)=>
   k50 (v51,v52)
  ) (fun next53 (x54:JAF) i55 (v51,v52)=>
   Option.bind (AS x54.A 4) fun v56=>
   Option.bind (apnd (α:=UInt8) 1 v52 v56) fun v57=>
   Option.bind (AS x54.B 4) fun v58=>
   Option.bind (apnd (α:=UInt8) 1 v57 v58) fun v59=>
   Option.bind (AS x54.C 4) fun v60=>
   Option.bind (apnd (α:=UInt8) 1 v59 v60) fun v61=>
   next53 ((Cc v51 32 v61),v61)
  ) a0.JAF 0 (v48,[])
 ) fun (v62,v63)=>
 AI (τ:=(List (Int×(List UInt8)))) (fun k64=>
  if (decide (a0.OTC ≥ 0)) then
   Option.bind (AS a0.OTC 4) fun v65=>
   k64 (Cc v62 35 v65)
  else
   k64 v62
 ) fun v66=>
 AI (τ:=(List JAA)) (fun k67=>
  A6 (σ:=Int×(List JAA)) (fun next68 (v69,v70)=>
   if (decide (v69<256)) then
    AI (τ:=(List JAA)) (fun k71=>
     Option.bind (some (Option.getD (BB v66 v69) [])) fun v72=>
     Option.bind (some (Option.isSome (BB v66 v69))) fun v73=>
     AI (τ:=(List JAA)) (fun k74=>
      if v73 then
       Option.bind (Bc v69) fun v75=>
       Option.bind (apnd (α:=UInt8) 1 [] v72) fun _=>
       Option.bind (apnd (α:=JAA) 40 v70 ([(⟨v75,v69,v72⟩:JAA)]:List JAA)) fun v76=>
       k74 v76
      else
       k74 v70
     ) fun v77=>
     AI (τ:=(List JAA)) (fun k78=>
      Ao (σ:=(List JAA)) (fun v79=>
       k78 v79
      ) (fun next80 (x81:JAA) i82 v79=>
       AI (τ:=(List JAA)) (fun k83=>
        if (x81.Type_==v69) then
         Option.bind (apnd (α:=UInt8) 1 [] x81.Data) fun _=>
         Option.bind (apnd (α:=JAA) 40 v79 ([{ x81 with Type_:=v69 }]:List JAA)) fun v84=>
         k83 v84
        else
         k83 v79
       ) fun v85=>
       next80 v85
      ) a0.Other 0 v77
     ) fun v86=>
     k71 v86
    ) fun v87=>
    next68 ((AN (v69+1)),v87)
   else
    k67 v70
  ) fuel (0,[])
 ) fun v88=>
 some (v88,0)
def WRk (a0:JAC)(v66:List (Int×(List UInt8))):Option ((List JAA)×Int):=
 AI (τ:=(List JAA)) (fun k67=>
  A6 (σ:=Int×(List JAA)) (fun next68 (v69,v70)=>
   if (decide (v69<256)) then
    AI (τ:=(List JAA)) (fun k71=>
     Option.bind (some (Option.getD (BB v66 v69) [])) fun v72=>
     Option.bind (some (Option.isSome (BB v66 v69))) fun v73=>
     AI (τ:=(List JAA)) (fun k74=>
      if v73 then
       Option.bind (Bc v69) fun v75=>
       Option.bind (apnd (α:=UInt8) 1 [] v72) fun _=>
       Option.bind (apnd (α:=JAA) 40 v70 ([(⟨v75,v69,v72⟩:JAA)]:List JAA)) fun v76=>
       k74 v76
      else
       k74 v70
     ) fun v77=>
     AI (τ:=(List JAA)) (fun k78=>
      Ao (σ:=(List JAA)) (fun v79=>
       k78 v79
      ) (fun next80 (x81:JAA) i82 v79=>
       AI (τ:=(List JAA)) (fun k83=>
        if (x81.Type_==v69) then
         Option.bind (apnd (α:=UInt8) 1 [] x81.Data) fun _=>
         Option.bind (apnd (α:=JAA) 40 v79 ([{ x81 with Type_:=v69 }]:List JAA)) fun v84=>
         k83 v84
        else
         k83 v79
       ) fun v85=>
       next80 v85
      ) a0.Other 0 v77
     ) fun v86=>
     k71 v86
    ) fun v87=>
    next68 ((AN (v69+1)),v87)
   else
    k67 v70
  ) fuel (0,[])
 ) fun v88=>
 some (v88,0)
theorem G6 (a:JAC)(k:Int):(ent a k).length<=1:=by unfold ent;split<;>simp
theorem bj (l:List JAA)(k:Int):(ofK l k).length<=l.length:=KI (fun x=>by split<;>simp) l
structure Puts (m:List (Int×List UInt8))(a:JAC)(ks:List Int):Prop where
 h :∀k,BB m k=if k∈ks then G a k else none
theorem Puts.add {m:List (Int×List UInt8)}{a:JAC}{ks:List Int}(p:Puts m a ks)(k:Int){b:List UInt8}(hb:G a k=some b):Puts (Cc m k b) a (k::ks):=⟨fun j=>by
 rw[Go.AX.mget_mset,p.h]
 by_cases h:j=k
 ·subst h;simp[hb]
 have:(j==k)=false:=by simpa using h
 rw[this];simp[h]⟩
theorem Puts.skip {m:List (Int×List UInt8)}{a:JAC}{ks:List Int}(p:Puts m a ks)(k:Int)(hb:G a k=none):Puts m a (k::ks):=⟨fun j=>by
 rw[p.h]
 by_cases h:j=k
 ·subst h;simp[hb]
 simp[h]⟩
theorem fR {β ρ:Type}{w:β->List UInt8}{k:Int}{N:Nat}{K:List (Int×List UInt8)×List UInt8->Option ρ}{body:(List (Int×List UInt8)×List UInt8->Option ρ)->β->Nat->List (Int×List UInt8)×List UInt8->Option ρ}{l:List β}{m:List (Int×List UInt8)}
  {R:Option ρ} (hN:(l.flatMap w).length<=N) (hb :∀next x i m b,x∈l->b.length+(w x).length<=N->body next x i (m,b)=next (Cc m k (b++w x),b++w x))
  (hK :∀m' b',(∀j,BB m' j=if l≠[]/\j=k then some (l.flatMap w) else BB m j)->K (m',b')=R):Ao K body l 0 (m,[])=R:=by
 have key :∀(t:List β) (i:Nat) (m:List (Int×List UInt8)) (b:List UInt8),(∀x∈t,x∈l)->b.length+(t.flatMap w).length<=N->∃m' b',Ao K body t i (m,b)=K (m',b')/\∀j,BB m' j=if t≠[]/\j=k then some (b++t.flatMap w) else BB m j:=by
  intro t
  induction t with
  | nil=>intro i m b _ _;exact⟨m,b,rfl,fun j=>by simp⟩
  | cons x t ih=>
   intro i m b hx hl
   rw[List.flatMap_cons,X11] at hl
   obtain⟨m',b',e,h⟩:=ih (i+1) (Cc m k (b++w x)) (b++w x) (fun y hy=>hx y (X19 _ hy)) (by rw[X11];omega)
   refine⟨m',b',?_,fun j=>?_⟩
   ·show body (fun s=>Ao K body t (i+1) s) x i (m,b)=_
    rw[hb _ x i m b (hx x (by simp)) (by omega)]
    exact e
   rw[h j,Go.AX.mget_mset]
   by_cases hj:j=k
   ·subst hj
    by_cases ht:t=[]
    ·subst ht;simp
    simp[ht,List.flatMap_cons]
   simp[hj]
 obtain⟨m',b',e,h⟩:=key l 0 m [] (fun _ h=>h) (by simpa using hN)
 rw[e]
 exact hK m' b' fun j=>by rw[h j,List.nil_append]
theorem dP {a:JAC}{m:List (Int×List UInt8)}{ρ:Type}{K:List JAA->Option ρ}(hO:a.Other.length<=1000000)(hd :∀x∈a.Other,x.Data.length<=1000000)(hg :∀k b,G a k=some b->b.length<=1000000)
  (hm :∀k,BB m k=G a k) :
  AI (τ:=(List JAA)) (fun k67=>
   A6 (σ:=Int×(List JAA)) (fun next68 p=>match p with
    | (v69,v70)=>if (decide (v69<256))=true then
     AI (τ:=(List JAA)) (fun k71=>
      Option.bind (some (Option.getD (BB m v69) [])) fun v72=>
      Option.bind (some (Option.isSome (BB m v69))) fun v73=>
      AI (τ:=(List JAA)) (fun k74=>
       if v73=true then
        Option.bind (Bc v69) fun v75=>
        Option.bind (apnd (α:=UInt8) 1 [] v72) fun _=>
        Option.bind (apnd (α:=JAA) 40 v70 ([(⟨v75,v69,v72⟩:JAA)]:List JAA)) fun v76=>
        k74 v76
       else
        k74 v70
      ) fun v77=>
      AI (τ:=(List JAA)) (fun k78=>
       Ao (σ:=(List JAA)) (fun v79=>
        k78 v79
       ) (fun next80 (x81:JAA) i82 v79=>
        AI (τ:=(List JAA)) (fun k83=>
         if (x81.Type_==v69)=true then
          Option.bind (apnd (α:=UInt8) 1 [] x81.Data) fun _=>
          Option.bind (apnd (α:=JAA) 40 v79 ([{ x81 with Type_:=v69 }]:List JAA)) fun v84=>
          k83 v84
         else
          k83 v79
        ) fun v85=>
        next80 v85
       ) a.Other 0 v77
      ) fun v86=>
      k71 v86
     ) fun v87=>
     next68 ((AN (v69+1)),v87)
    else
     k67 v70
   ) fuel (0,[])
  ) K=K (wrS a):=by
 rw[AH]
 refine (DW (fun s:Int×List JAA=>∃k:Nat,s.1=k/\k<=256/\s.2.length<=k*1000001) (fun s=>(256-s.1).toNat) (fun s=>K (s.2++(List.range' s.1.toNat (256-s.1.toNat)).flatMap fun (k:Nat)=>ent a k++ofK a.Other k)) ?_ fuel (0,[]) ⟨0,rfl,by omega,by simp⟩ (B2 (by simp only;omega))).trans rfl
 rintro next ⟨kk,v⟩ ⟨k,rfl,hk2,hv⟩ hn
 dsimp only at hv ⊢
 by_cases hk:k<256
 ·rw[if_pos (by simp only[decide_eq_true_eq];omega),AH,AC,AC,hm]
  have he:=G6 a k
  have hent :∀q:List JAA->Option ρ,AI (τ:=(List JAA)) (fun k74=>
       if (G a k).isSome=true then
        Option.bind (Bc k) fun v75=>
        Option.bind (apnd (α:=UInt8) 1 [] ((G a k).getD [])) fun _=>
        Option.bind (apnd (α:=JAA) 40 v ([(⟨v75,k,((G a k).getD [])⟩:JAA)]:List JAA)) fun v76=>
        k74 v76
       else
        k74 v
      ) q=q (v++ent a k):=by
   intro q
   rw[AH]
   unfold ent
   cases hG:G a k with
   | none=>rw[if_neg (by decide),List.append_nil]
   | some b=>
    have:=hg k b hG
    rw[if_pos (show (some b).isSome=true from rfl),Kt,AC,Option.getD_some,AO (by decide) (by simp;omega),AC,AO (by decide) (by simp;omega),AC]
  rw[hent,AH]
  have hlen:=bj a.Other k
  refine (Rn (g:=fun x:JAA=>if (x.Type_==(k:Int))=true then [x] else []) (N:=(k+1)*1000001) (by unfold ofK at hlen;rw[X11];omega) fun next2 x i w hx hw=>?_).trans ?_
  ·rw[AH]
   by_cases hc:(x.Type_==(k:Int))=true
   ·rw[if_pos hc] at hw
    have:=hd x hx
    simp only[X22] at hw
    rw[if_pos hc,if_pos hc,AO (by decide) (by simp;omega),AC,AO (by decide) (by simp;omega),AC]
    have e:x.Type_=(k:Int):=by simpa using hc
    rw[<- e]
   rw[if_neg hc,if_neg hc,List.append_nil]
  show next (AN ((k:Int)+1),v++ent a k++ofK a.Other k)=_
  rw[AP (by omega),hn _ ⟨k+1,by simp,by omega,by simp only[X11];omega⟩ (by simp only;omega)]
  have e1:((k:Int)+1).toNat=k+1:=by omega
  have e2:256-k=(256-(k+1))+1:=by omega
  simp only[e1,Int.toNat_natCast]
  rw[e2,List.range'_succ,List.flatMap_cons,List.append_assoc,List.append_assoc,List.append_assoc]
 rw[if_neg (by simp only[decide_eq_true_eq];omega)]
 have:256-(k:Int).toNat=0:=by omega
 rw[this]
 simp
structure VA (a:JAC):Prop where
 O:EM a.Other=true
 o:-1<=a.Origin/\a.Origin<=2
 p:GR a.Path=true
 n:a.Next.ok=true
 m:-1<=a.MED/\a.MED<=4294967295
 r:-1<=a.Pref/\a.Pref<=4294967295
 t:a.OTC=-1\/(1<=a.OTC/\a.OTC<=4294967295)
 c:EY a.Communities=true
 l:ET a.JAF=true
 e:a.Other.length<=8
theorem O0 {a:JAC}:Gp a=true↔VA a:=by
 unfold Gp KA
 simp only[X27,Bool.or_eq_true,decide_eq_true_eq]
 constructor
 ·rintro⟨h1,h2,h3,h4,h5,h6,h7,h8,h9,h10⟩
  exact⟨h1,h2,h3,h4,h5,h6,h7,h8,h9,h10⟩
 rintro⟨h1,h2,h3,h4,h5,h6,h7,h8,h9,h10⟩
 exact⟨h1,h2,h3,h4,h5,h6,h7,h8,h9,h10⟩
theorem HM {p:List JAD}(h:GR p=true):p.length<=tot p/\tot p<=64:=by
 unfold GR at h
 simp only[X27,List.all_eq_true,decide_eq_true_eq] at h
 refine⟨?_,h.2⟩
 have h1:=h.1.1
 clear h
 induction p with
 | nil=>exact Nat.le_refl _
 | cons s t ih=>
  rw[Ee,X12]
  have h2:=ih fun x hx=>h1 x (X19 _ hx)
  have h3:=h1 s (by simp)
  simp only[PT,X27,decide_eq_true_eq] at h3
  omega
theorem VA.sm {a:JAC}(v:VA a):SmT a:=by
 obtain⟨h1,h2⟩:=HM v.p
 have h3:=(E8.1 v.c).2.2
 have h4:=(Et.1 v.l).2.2
 have h5:=v.e
 exact⟨by omega,by omega,by omega,by omega,by omega,fun u hu=>by have:=(EC v.O hu).2.2.2.2;omega⟩
theorem dF {a:JAC}(v:VA a){k:Int}{b:List UInt8}(h:G a k=some b):b.length<=768:=by
 obtain⟨h1,h2⟩:=HM v.p
 have h3:=(E8.1 v.c).2.2
 have h4:=(Et.1 v.l).2.2
 unfold G at h
 split at h
 ·split at h
  ·obtain rfl:=X25 h;simp
  cases h
 split at h
 ·split at h
  ·obtain rfl:=X25 h;rw[Ou];omega
  cases h
 split at h
 ·split at h
  ·obtain rfl:=X25 h;simp[b4]
  cases h
 split at h
 ·split at h
  ·obtain rfl:=X25 h;rw[OV];omega
  cases h
 split at h
 ·split at h
  ·obtain rfl:=X25 h;rw[OV];omega
  cases h
 split at h
 ·split at h
  ·obtain rfl:=X25 h;rw[LN];omega
  cases h
 split at h
 ·split at h
  ·obtain rfl:=X25 h;rw[LW];omega
  cases h
 split at h
 ·split at h
  ·obtain rfl:=X25 h;rw[OV];omega
  cases h
 cases h
theorem Yg {a:JAC}(v:VA a):GG a=some (wrS a,0):=by
 have hs:=HM v.p
 have hc:=(E8.1 v.c).2.2
 have hl:=(Et.1 v.l).2.2
 unfold GG
 rw[S8 v.sm,AC,O0.2 v,if_neg (by decide)]
 have p0:Puts [] a []:=⟨fun k=>by simp[BB]⟩
 rw[JC]
 have p1:Puts (if decide (a.Origin ≥ 0)=true then Cc ([]:List (Int×List UInt8)) (1:Int) [Aa a.Origin] else []) a [1]:=by
  by_cases h:a.Origin ≥ 0
  ·rw[if_pos (by simpa using h)]
   exact p0.add 1 (by unfold G;rw[if_pos rfl,if_pos (by omega)])
  rw[if_neg (by simpa using h)]
  exact p0.skip 1 (by unfold G;rw[if_pos rfl,if_neg (by have:=v.o;omega)])
 generalize (if decide (a.Origin ≥ 0)=true then Cc ([]:List (Int×List UInt8)) (1:Int) [Aa a.Origin] else [])=m1 at p1
 rw[JC]
 have eb:(if decide (a.Origin ≥ 0)=true then true else (cond false true (decide ((a.Path.length:Int) > 0))))=decide (a.Origin≠-1\/a.Path≠[]):=by
  have:=v.o
  have e:(a.Path≠[])↔0<a.Path.length:=List.length_pos_iff.symm
  by_cases h:a.Origin ≥ 0
  ·rw[if_pos (by simpa using h),decide_eq_true (.inl (by omega))]
  rw[if_neg (by simpa using h),cond_false]
  have h1:a.Origin=-1:=by omega
  have e2:(a.Origin≠-1\/a.Path≠[])↔0<a.Path.length:=by rw[e];omega
  rw[X28,decide_eq_true_eq,decide_eq_true_eq,e2]
  omega
 rw[eb,AH]
 have step2 :∃m2,Puts m2 a [2,1]/\∀(ρ:Type) (q:List (Int×List UInt8)->Option ρ),(if decide (a.Origin≠-1\/a.Path≠[])=true then q (Cc m1 2 (Ft a.Path)) else q m1)=q m2:=by
  by_cases h:a.Origin≠-1\/a.Path≠[]
  ·exact⟨_,p1.add 2 (by unfold G;rw[if_neg (by decide),if_pos rfl,if_pos h]),fun ρ q=>by rw[if_pos (by simpa using h)]⟩
  exact⟨_,p1.skip 2 (by unfold G;rw[if_neg (by decide),if_pos rfl,if_neg h]),fun ρ q=>by rw[if_neg (by simpa using h)]⟩
 rw[az (by omega)]
 obtain⟨m2,p2,e2⟩:=step2
 refine (e2 _ (WR3 a)).trans ?_
 unfold WR3
 have en :∀{ρ:Type} (q:Bool->Option ρ),AI (τ:=Bool) (fun k27=>if (!(Addr.eqd a.Next (⟨false,(0:UInt64),(0:UInt64)⟩:Addr)))=true then k27 (cond true (!a.Next.V6) false) else k27 false) q=q (Fz a):=by
  intro ρ q
  rw[AH]
  unfold Fz
  cases a.Next.V6<;>cases Addr.eqd a.Next ⟨false,0,0⟩<;>rfl
 refine (en _).trans ?_
 rw[AH]
 have step3 :∃m3,Puts m3 a [3,2,1]/\∀(ρ:Type) (q:List (Int×List UInt8)->Option ρ),(if Fz a=true then Option.bind (Bg a.Next) fun v30=>q (Cc m2 3 v30) else q m2)=q m3:=by
  by_cases h:Fz a=true
  ·have h6:a.Next.V6=false:=by
    unfold Fz at h
    cases h6:a.Next.V6
    ·rfl
    rw[h6] at h;simp at h
   exact⟨_,p2.add 3 (by unfold G;rw[if_neg (by decide),if_neg (by decide),if_pos rfl,if_pos h]),fun ρ q=>by rw[if_pos h,Yl v.n h6,AC]⟩
  exact⟨_,p2.skip 3 (by unfold G;rw[if_neg (by decide),if_neg (by decide),if_pos rfl,if_neg h]),fun ρ q=>by rw[if_neg h]⟩
 obtain⟨m3,p3,e3⟩:=step3
 refine (e3 _ (WR4 a)).trans ?_
 unfold WR4
 rw[AH]
 have step4 :∃m4,Puts m4 a [4,3,2,1]/\∀(ρ:Type) (q:List (Int×List UInt8)->Option ρ),(if decide (a.MED ≥ 0)=true then Option.bind (AS a.MED 4) fun v33=>q (Cc m3 4 v33) else q m3)=q m4:=by
  have:=v.m
  by_cases h:a.MED ≥ 0
  ·exact⟨_,p3.add 4 (by unfold G;rw[if_neg (by decide),if_neg (by decide),if_neg (by decide),if_pos rfl,if_pos (by omega)]),fun ρ q=>by rw[if_pos (by simpa using h),Rk,AC]⟩
  exact⟨_,p3.skip 4 (by unfold G;rw[if_neg (by decide),if_neg (by decide),if_neg (by decide),if_pos rfl,if_neg (by omega)]),fun ρ q=>by rw[if_neg (by simpa using h)]⟩
 obtain⟨m4,p4,e4⟩:=step4
 refine (e4 _ (WR5 a)).trans ?_
 unfold WR5
 rw[AH]
 have step5 :∃m5,Puts m5 a [5,4,3,2,1]/\∀(ρ:Type) (q:List (Int×List UInt8)->Option ρ),(if decide (a.Pref ≥ 0)=true then Option.bind (AS a.Pref 4) fun v33=>q (Cc m4 5 v33) else q m4)=q m5:=by
  have:=v.r
  by_cases h:a.Pref ≥ 0
  ·exact⟨_,p4.add 5 (by unfold G;rw[if_neg (by decide),if_neg (by decide),if_neg (by decide),if_neg (by decide),if_pos rfl,if_pos (by omega)]),fun ρ q=>by rw[if_pos (by simpa using h),Rk,AC]⟩
  exact⟨_,p4.skip 5 (by unfold G;rw[if_neg (by decide),if_neg (by decide),if_neg (by decide),if_neg (by decide),if_pos rfl,if_neg (by omega)]),fun ρ q=>by rw[if_neg (by simpa using h)]⟩
 obtain⟨m5,p5,e5⟩:=step5
 refine (e5 _ (WR8 a)).trans ?_
 unfold WR8
 have ck8:chk ((BB m5 8).isNone=true)=some ():=by
  have hn:BB m5 8=none:=by rw[p5.h,if_neg (by decide)]
  unfold chk
  rw[hn]
  rfl
 rw[AH,ck8,AC]
 refine fR (w:=IF) (k:=8) (N:=1000000) (l:=a.Communities) (by rw[LN];omega) (fun next x i m b _ hb=>by
  rw[OK] at hb
  dsimp only
  rw[dE,AC,AO (by decide) (by simp[w2];omega),AC,dE,AC,AO (by decide) (by simp[w2];omega),AC,List.append_assoc]
  rfl) fun m8 b8 h8=>?_
 have p8:Puts m8 a [8,5,4,3,2,1]:=⟨fun j=>by
  rw[h8 j,p5.h]
  by_cases hj:j=8
  ·subst hj
   have:G a 8=if a.Communities≠[] then some (a.Communities.flatMap IF) else none:=rfl
   simp[this]
  simp[hj]⟩
 dsimp only
 have ck32:chk ((BB m8 32).isNone=true)=some ():=by
  have hn:BB m8 32=none:=by rw[p8.h,if_neg (by decide)]
  unfold chk
  rw[hn]
  rfl
 rw[AH,ck32,AC]
 refine fR (w:=Gg) (k:=32) (N:=1000000) (l:=a.JAF) (by rw[LW];omega) (fun next x i m b _ hb=>by
  rw[ME] at hb
  dsimp only
  rw[Rk,AC,AO (by decide) (by simp[w4];omega),AC,Rk,AC,AO (by decide) (by simp[w4];omega),AC,Rk,AC,AO (by decide) (by simp[w4];omega),AC,List.append_assoc,List.append_assoc]
  rfl) fun m9 b9 h9=>?_
 have p9:Puts m9 a [32,8,5,4,3,2,1]:=⟨fun j=>by
  rw[h9 j,p8.h]
  by_cases hj:j=32
  ·subst hj
   have:G a 32=if a.JAF≠[] then some (a.JAF.flatMap Gg) else none:=rfl
   simp[this]
  simp[hj]⟩
 dsimp only
 rw[AH]
 have step35 :∃m10,Puts m10 a [35,32,8,5,4,3,2,1]/\∀(ρ:Type) (q:List (Int×List UInt8)->Option ρ),(if decide (a.OTC ≥ 0)=true then Option.bind (AS a.OTC 4) fun v33=>q (Cc m9 35 v33) else q m9)=q m10:=by
  have:=v.t
  have hG:G a 35=if a.OTC≠-1 then some (w4 a.OTC) else none:=rfl
  by_cases h:a.OTC ≥ 0
  ·exact⟨_,p9.add 35 (by rw[hG,if_pos (by omega)]),fun ρ q=>by rw[if_pos (by simpa using h),Rk,AC]⟩
  exact⟨_,p9.skip 35 (by rw[hG,if_neg (by omega)]),fun ρ q=>by rw[if_neg (by simpa using h)]⟩
 obtain⟨m10,p10,e10⟩:=step35
 refine (e10 _ (WRk a)).trans ?_
 unfold WRk
 refine (dP (a:=a) (by have:=v.e;omega) (fun x hx=>by have:=(EC v.O hx).2.2.2.2;omega) (fun k b h=>by have:=dF v h;omega) fun k=>?_).trans rfl
 rw[p10.h]
 split
 ·rfl
 rename_i hk
 simp only[List.mem_cons,List.not_mem_nil,or_false,not_or] at hk
 unfold G
 rw[if_neg hk.2.2.2.2.2.2.2,if_neg hk.2.2.2.2.2.2.1,if_neg hk.2.2.2.2.2.1,if_neg hk.2.2.2.2.1,if_neg hk.2.2.2.1,if_neg hk.2.2.1,if_neg hk.2.1,if_neg hk.1]
theorem bG {v:List JAA}{k f:Int}{d:List UInt8}{c:Bool}{ρ:Type}{K:List JAA->Option ρ}(hf:fl k=f)(hv:v.length<=1000000) :
  AI (τ:=(List JAA)) (fun k33=>
   AI (τ:=(List JAA)) (fun k34=>
    if c=true then
     Option.bind (some (Option.getD (BB Bo k) 0)) fun v35=>
     Option.bind (apnd (α:=JAA) 40 v ([(⟨v35,k,d⟩:JAA)]:List JAA)) fun v36=>
     k34 v36
    else
     k34 v
   ) fun v37=>
   k33 v37
  ) K=K (v++if c=true then [⟨fl k,k,d⟩] else []):=by
 rw[AH,AH,LR]
 cases c
 ·rw[if_neg (by decide),if_neg (by decide),List.append_nil]
 rw[if_pos rfl,if_pos rfl,AC,AO (by decide) (by simp;omega),AC]
theorem ZG (a b:JAA):DC a b=some (Fb (HZ a) (HZ b)):=Ru a b
def OD:List Int:=[1,2,3,4,5,8,32,35]
def P6 (a:JAC):List JAA:=OD.flatMap (ent a)++a.Other
theorem Yn {a:JAC}{k:Int}{y:JAA}(h:y∈ent a k):k∈OD:=by
 obtain⟨b,hb,_⟩:=Fv.1 h
 rcases FH k with ⟨e,_⟩|⟨e,_⟩|⟨e,_⟩|⟨e,_⟩|⟨e,_⟩|⟨e,_⟩|⟨e,_⟩|⟨e,_⟩|e
 iterate 8 (subst e;decide)
 rw[OX e.2.2.2.2.2.2.2.2] at hb;cases hb
theorem Zz {a:JAC}{y:JAA}:y∈P6 a↔(∃k,y∈ent a k)\/y∈a.Other:=by
 unfold P6
 rw[X23,List.mem_flatMap]
 exact⟨fun h=>h.imp_left fun ⟨k,_,h⟩=>⟨k,h⟩,fun h=>h.imp_left fun ⟨k,h⟩=>⟨k,Yn h,h⟩⟩
theorem ZU {a:JAC}(hO:EM a.Other=true):(P6 a).Pairwise fun x y=>HZ x≠HZ y:=by
 unfold P6
 have hk :∀{x y:JAA},x.Type_≠y.Type_->HZ x≠HZ y:=fun h e=>h (by simpa[HZ] using e)
 refine List.pairwise_append.2 ⟨?_,(JK hO).imp fun {x y} h=>hk (by simp only[ltT,decide_eq_true_eq] at h;omega),fun x hx y hy=>hk fun e=>?_⟩
 ·rw[List.pairwise_flatMap]
  refine⟨fun k _=>?_,?_⟩
  ·unfold ent
   split
   ·exact List.pairwise_singleton _ _
   exact .nil
  have:OD.Pairwise (·≠·):=by decide
  exact this.imp fun {k j} h x hx y hy=>hk (by rw[M9 hx,M9 hy];exact h)
 obtain⟨k,_,hx⟩:=List.mem_flatMap.1 hx
 obtain⟨b,hb,_⟩:=Fv.1 hx
 have:=UY (EC hO hy).1
 rw[<- e,M9 hx] at this
 rw[OX this] at hb;cases hb
theorem TV {a:JAC}(hO:EM a.Other=true)(hl:(P6 a).length<=1000000):EO DC (P6 a)=some (wrS a):=by
 obtain⟨r,h1,h2,h3⟩:=ND Fh ZG (l:=P6 a) (by omega)
 rw[h1]
 congr 1
 refine QH Fh (OU Fh h3 ?_) (OT hO) fun x=>?_
 ·exact (h2.pairwise_iff fun h e=>h e.symm).2 (ZU hO)
 rw[h2.mem_iff,Zz,Ji hO]
theorem dm {l:List JAA}(hl:l.length<=1000)(hd :∀x∈l,x.Data.length<=1000000){v:List JAA}(hv:v.length<=1000){ρ:Type}{K:List JAA->Option ρ} :
  AI (τ:=(List JAA)) (fun k67=>
   Ao (σ:=(List JAA)) (fun v68=>
    k67 v68
   ) (fun next69 (x70:JAA) i71 v68=>
    Option.bind (A7 x70.Data) fun v72=>
    Option.bind (apnd (α:=JAA) 40 v68 ([{ x70 with Data:=v72 }]:List JAA)) fun v73=>
    next69 v73
   ) l 0 v
  ) K=K (v++l):=by
 rw[AH]
 have e:l.flatMap (fun x=>[x])=l:=by simp
 refine (Rn (g:=fun x:JAA=>[x]) (N:=100000) (by rw[e];omega) fun next x i w hx hw=>?_).trans (by rw[e])
 have:=hd x hx
 simp only[X22] at hw
 unfold A7
 rw[AO (by decide) (by simp;omega),AC,AC,List.nil_append,AO (by decide) (by simp;omega),AC]
theorem Q6 (a:JAC):(OD.flatMap (ent a)).length<=8:=KI (G6 a) OD
theorem U5 {a:JAC}(v:VA a):(wrS a).length<=16:=by
 have h:=G0 (TV v.O (by unfold P6;rw[X11];have:=Q6 a;have:=v.e;omega))
 rw[h]
 unfold P6
 rw[X11]
 have:=Q6 a
 have:=v.e
 omega
theorem Uk {a:JAC}(v:VA a){x:JAA}(h:x∈wrS a):x.Data.length<=768:=by
 rcases (Ji v.O).1 h with ⟨k,h⟩|h
 ·obtain⟨b,hb,rfl⟩:=Fv.1 h
  exact dF v hb
 have:=(EC v.O h).2.2.2.2
 omega
theorem de (l:List Int):NE l=some ⟨l,0⟩:=rfl
theorem get4 {n:Int}(h:0<=n/\n<=4294967295):Eg (w4 n)=n:=by
 obtain⟨m,rfl⟩ :∃m:Nat,n=m:=⟨n.toNat,by omega⟩
 rw[bF,GY (by simp)]
 have:val [UInt8.ofNat (m/16777216),UInt8.ofNat (m/65536),UInt8.ofNat (m/256),UInt8.ofNat m]=m:=by
  simp only[val,List.foldl_cons,List.foldl_nil,UInt8.toNat_ofNat']
  omega
 rw[this]
theorem fQ {n:Int}(h:0<=n/\n<=65535):Eg (w2 n)=n:=by
 obtain⟨m,rfl⟩ :∃m:Nat,n=m:=⟨n.toNat,by omega⟩
 rw[XR,GY (by simp)]
 have:val [UInt8.ofNat (m/256),UInt8.ofNat m]=m:=by
  simp only[val,List.foldl_cons,List.foldl_nil,UInt8.toNat_ofNat']
  omega
 rw[this]
theorem YW :∀{l:List Int},(∀n∈l,KA n=true)->nums (l.flatMap w4)=l
 | [],_=>rfl
 | n::t,h=>by
  have h1:=h n (by simp)
  simp only[KA,X27,decide_eq_true_eq] at h1
  rw[List.flatMap_cons]
  show Eg (w4 n)::nums (t.flatMap w4)=_
  rw[get4 (by omega),YW fun m hm=>h m (X19 _ hm)]
theorem X0 :∀{l:List JAB},(∀c∈l,okC c=true)->comms (l.flatMap IF)=l
 | [],_=>rfl
 | c::t,h=>by
  have h1:=h c (by simp)
  simp only[okC,inR,X27,decide_eq_true_eq] at h1
  rw[List.flatMap_cons]
  show (⟨Eg (w2 c.A),Eg (w2 c.B)⟩:JAB)::comms (t.flatMap IF)=_
  rw[fQ (by omega),fQ (by omega),X0 fun m hm=>h m (X19 _ hm)]
theorem WF :∀{l:List JAF},(∀c∈l,okL c=true)->Cd (nums (l.flatMap Gg))=l
 | [],_=>rfl
 | c::t,h=>by
  have h1:=h c (by simp)
  simp only[okL,inR,X27,decide_eq_true_eq] at h1
  rw[List.flatMap_cons]
  show (⟨Eg (w4 c.A),Eg (w4 c.B),Eg (w4 c.C)⟩:JAF)::Cd (nums (t.flatMap Gg))=_
  rw[get4 (by omega),get4 (by omega),get4 (by omega),WF fun m hm=>h m (X19 _ hm)]
theorem cp {l:List JAB}(h:l.Pairwise fun a b=>Jd a b=true):Xc l=l:=(JH (l:=l) ZP Ro LJ KG h fun _=>Iff.rfl).symm
theorem cZ {l:List JAF}(h:l.Pairwise fun a b=>JI a b=true):Xa l=l:=(JH (l:=l) ZI Q2 LO Ko h fun _=>Iff.rfl).symm
theorem XI {n:Int}(h:0<=n/\n<=2):LD [Aa n]=some n:=by
 obtain⟨m,rfl⟩ :∃m:Nat,n=m:=⟨n.toNat,by omega⟩
 have e:Eg [Aa (m:Int)]=(m:Int):=by
  rw[BU,GY (by simp)]
  simp only[val,List.foldl_cons,List.foldl_nil,UInt8.toNat_ofNat']
  omega
 unfold LD
 rw[e,if_pos ⟨rfl,h.2⟩]
theorem dC {n:Int}(h:0<=n/\n<=4294967295):rd4 (w4 n)=some n:=by
 unfold rd4
 rw[if_pos (OV n),get4 h]
theorem bq {n:Int}(h:1<=n/\n<=4294967295):Vr (w4 n)=some n:=by
 unfold Vr
 rw[get4 (by omega),if_pos ⟨OV n,by omega⟩]
theorem ak {l:List JAB}(hv:EY l=true)(hn:l≠[]):OA (l.flatMap IF)=some l:=by
 obtain⟨h1,h2,h3⟩:=E8.1 hv
 have hpos:=List.length_pos_iff.2 hn
 unfold OA
 rw[LN,if_pos (by omega),X0 h1,cp h2]
theorem Y9 {l:List JAF}(hv:ET l=true)(hn:l≠[]):JO (l.flatMap Gg)=some l:=by
 obtain⟨h1,h2,h3⟩:=Et.1 hv
 have hpos:=List.length_pos_iff.2 hn
 unfold JO
 rw[LW,if_pos (by omega),WF h1,cZ h2]
theorem XN {acc:List JAD}{s:JAD}(hs:s.ASNs.length<=1000)(h1:s.Set=true->s.ASNs.Pairwise fun a b=>ltI a b=true)(h2:s.Set=false->∀x,acc.getLast?=some x->x.Set=true):Gw acc s.Set s.ASNs=acc++[s]:=by
 obtain⟨b,l⟩:=s
 dsimp only at *
 unfold Gw
 cases b
 ·simp only[Bool.false_eq_true,if_false]
  cases h:acc.getLast? with
  | none=>simp only;rw[List.getLast?_eq_none_iff.1 h];rfl
  | some x=>simp only;rw[if_pos (h2 rfl x h)]
 simp only[if_true]
 have:srt l=l:=Asc.uniq (l:=l) (Ui (by omega)) ⟨h1 rfl,fun _=>Iff.rfl⟩
 rw[this]
theorem V5 :∀(q acc:List JAD) (e:List UInt8),(∀s∈q,PT s=true/\s.ASNs.length<=64)->chainB sgl q=true->(∀x y,acc.getLast?=some x->q.head?=some y->sgl x y=true)->rdL (Ft q++e) acc=rdL e (acc++q)
 | [],acc,e,_,_,_=>by rw[List.append_nil];rfl
 | s::t,acc,e,h,hc,hl=>by
  obtain⟨hok,hlen⟩:=h s (by simp)
  simp only[PT,X27,decide_eq_true_eq,List.all_eq_true] at hok
  obtain⟨h0,hn,hch⟩:=hok
  have e0:Ft (s::t)++e=(if s.Set=true then (1:UInt8) else 2)::Aa (s.ASNs.length:Int)::(s.ASNs.flatMap w4++(Ft t++e)):=by
   unfold Ft
   rw[List.flatMap_cons]
   unfold ZN
   simp
  have hk:(if s.Set=true then (1:UInt8) else 2).toNat=if s.Set=true then 1 else 2:=by cases s.Set<;>rfl
  have hcn:(Aa (s.ASNs.length:Int)).toNat=s.ASNs.length:=by
   rw[BU,UInt8.toNat_ofNat'];omega
  have hk1:((if s.Set=true then (1:UInt8) else 2).toNat==1)=s.Set:=by cases s.Set<;>rfl
  have hbad:Ks (if s.Set=true then (1:UInt8) else 2) (Aa (s.ASNs.length:Int)) (s.ASNs.flatMap w4++(Ft t++e))=false:=by
   unfold Ks
   rw[hk,hcn,X11,Ht]
   refine decide_eq_false ?_
   have h12:(if s.Set=true then 1 else 2)=1\/(if s.Set=true then 1 else 2)=2:=by cases s.Set<;>simp
   generalize (if s.Set=true then 1 else 2)=z at h12 ⊢
   omega
  have htk:(s.ASNs.flatMap w4++(Ft t++e)).take (4*s.ASNs.length)=s.ASNs.flatMap w4:=List.take_left' (Ht _)
  have hdr:(s.ASNs.flatMap w4++(Ft t++e)).drop (4*s.ASNs.length)=Ft t++e:=List.drop_left' (Ht _)
  rw[e0,Vu,hbad,if_neg (by decide),hcn,htk,hdr,hk1,YW hn,XN (by omega) (fun hset=>?_) (fun hset x hx=>?_)]
  ·rw[V5 t (acc++[s]) e (fun u hu=>h u (X19 _ hu)) ?_ ?_]
   ·rw[List.append_assoc];rfl
   ·cases t with
    | nil=>rfl
    | cons y t=>rw[HF,X27] at hc;exact hc.2
   intro x y hx hy
   rw[List.getLast?_concat] at hx
   obtain rfl:=X25 hx
   cases t with
   | nil=>simp at hy
   | cons z t=>
    rw[HF,X27] at hc
    simp only[List.head?_cons,X24] at hy
    subst hy
    exact hc.1
  ·have:(fun a b=>!s.Set || ltI a b)=ltI:=by rw[hset];rfl
   rw[this] at hch
   exact (Hu R1).1 hch
  have:=hl x s hx rfl
  unfold sgl at this
  rw[hset] at this
  simpa using this
theorem Z1 {p:List JAD}(h:GR p=true):Og (Ft p)=some p:=by
 have h0:=h
 obtain⟨s1,s2⟩:=HM h
 unfold GR at h
 simp only[X27,List.all_eq_true,decide_eq_true_eq] at h
 obtain⟨⟨h1,h2⟩,h3⟩:=h
 have:=V5 p [] [] (fun s hs=>⟨h1 s hs,by have:=YB hs;omega⟩) h2 (fun x y hx=>by simp at hx)
 rw[List.append_nil,List.nil_append] at this
 unfold Og
 rw[this,Yb,Option.bind_some,On (by omega) (by omega),h0,if_pos rfl]
theorem bZ {h l:UInt64}(hh:h.toNat=0)(hl:l.toNat<72057594037927936):(AT ((BitVec.ofInt 64 ((AT ((h.toNat:Int)*(2^(min (Int.toNat 8) 64)))).toNat:Int) ||| BitVec.ofInt 64 ((AT (Int.fdiv (l.toNat:Int) (2^(min (Int.toNat 56) 64)))).toNat:Int)).toNat:Int))=0:=by
 have e1:Int.fdiv (l.toNat:Int) (2^(min (Int.toNat 56) 64))=((l.toNat/2^(min 56 64):Nat):Int):=fd l.toNat 56
 have e2:l.toNat/2^(min 56 64)=0:=Nat.div_eq_of_lt hl
 rw[e1,e2,hh]
 have e3:(((0:Nat):Int)*(2^(min (Int.toNat 8) 64)))=((0:Nat):Int):=by simp
 rw[e3,BP]
 rfl
def Un (v4:Addr)(x6:UInt8):Addr:=⟨v4.V6,(AT ((BitVec.ofInt 64 ((AT ((v4.Hi.toNat:Int)*(2^(min (Int.toNat 8) 64)))).toNat:Int) ||| BitVec.ofInt 64 ((AT (Int.fdiv (v4.Lo.toNat:Int) (2^(min (Int.toNat 56) 64)))).toNat:Int)).toNat:Int)),(AT ((BitVec.ofInt 64 ((AT ((v4.Lo.toNat:Int)*(2^(min (Int.toNat 8) 64)))).toNat:Int) ||| BitVec.ofInt 64 ((AT (x6.toNat:Int)).toNat:Int)).toNat:Int))⟩
theorem If {m:Nat}(hm:m<16777216)(x:UInt8):Un ⟨false,0,UInt64.ofNat m⟩ x=⟨false,0,UInt64.ofNat (m*256+x.toNat)⟩:=by
 have e:(UInt64.ofNat m).toNat=m:=by rw[UInt64.toNat_ofNat'];omega
 unfold Un
 dsimp only
 rw[bZ rfl (by omega),UO (by omega) x.toNat_lt,e]
theorem Yu {n:Nat}(h:n<4294967296):addrOf (b4 n)=⟨false,0,UInt64.ofNat n⟩:=by
 have h1 :∀K:Addr->Option (Addr×Int),Ao (σ:=Addr) (fun v4=>K v4) (fun next5 x6 _ v4=>next5 (Un v4 x6)) (b4 n) 0 ⟨false,0,UInt64.ofNat 0⟩=K ⟨false,0,UInt64.ofNat n⟩:=by
  intro K
  rw[Xu]
  unfold b4
  rw[List.foldl_cons,If (by omega),List.foldl_cons,If (by rw[UInt8.toNat_ofNat'];omega),List.foldl_cons,If (by rw[UInt8.toNat_ofNat',UInt8.toNat_ofNat'];omega),List.foldl_cons,If (by rw[UInt8.toNat_ofNat',UInt8.toNat_ofNat',UInt8.toNat_ofNat'];omega),List.foldl_nil]
  congr 3
  simp only[UInt8.toNat_ofNat']
  omega
 have main:A5 (b4 n)=some (⟨false,0,UInt64.ofNat n⟩,0):=h1 fun v8=>some (v8,0)
 unfold addrOf
 rw[main];rfl
theorem Z5 {a:Addr}(h:a.ok=true)(h6:a.V6=false):Qg (b4 a.Lo.toNat)=some a:=by
 obtain⟨h1,h2⟩:=Addr.four h h6
 unfold Qg
 rw[if_pos (show (b4 a.Lo.toNat).length=4 from rfl),Yu h2]
 obtain⟨v,hi,lo⟩:=a
 dsimp only at h1 h6
 subst h6
 congr 2
 ·apply UInt64.toNat_inj.1;rw[h1];rfl
 exact UInt64.ofNat_toNat
def Uc (a:JAC):JAC:={ a with Next:=if a.Next.V6=true then ⟨false,0,0⟩ else a.Next }
def J2 (s a:JAC)(k:Int):JAC:=
 if k=1 then { s with Origin:=a.Origin } else
 if k=2 then { s with Path:=a.Path } else
 if k=3 then { s with Next:=a.Next } else
 if k=4 then { s with MED:=a.MED } else
 if k=5 then { s with Pref:=a.Pref } else
 if k=8 then { s with Communities:=a.Communities } else
 if k=32 then { s with JAF:=a.JAF } else
 if k=35 then { s with OTC:=a.OTC } else s
theorem WZ {t:Int}{d:List UInt8}(h:fl t≠0):Eu ⟨fl t,t,d⟩=true:=by
 unfold Eu
 dsimp only
 rcases FH t with ⟨_,e⟩|⟨_,e⟩|⟨_,e⟩|⟨_,e⟩|⟨_,e⟩|⟨_,e⟩|⟨_,e⟩|⟨_,e⟩|e
 iterate 8 (rw[e];decide)
 exact absurd e.2.2.2.2.2.2.2.2 h
theorem Nw {a:JAC}{k:Int}{b:List UInt8}(h:G a k=some b):fl k≠0:=by
 intro e
 rw[OX e] at h;cases h
theorem dc {s a:JAC}(v:VA a){k:Int}{b:List UInt8}(h:G a k=some b):I9 s k b=some (J2 s a k):=by
 unfold I9 J2
 unfold G at h
 split at h
 ·rename_i hk
  subst hk
  split at h
  ·obtain rfl:=X25 h
   have:=v.o
   rw[if_pos rfl,if_pos rfl,XI (by omega)];rfl
  cases h
 rename_i h1
 rw[if_neg h1,if_neg h1]
 split at h
 ·rename_i hk
  subst hk
  split at h
  ·obtain rfl:=X25 h
   rw[if_pos rfl,if_pos rfl,Z1 v.p];rfl
  cases h
 rename_i h2
 rw[if_neg h2,if_neg h2]
 split at h
 ·rename_i hk
  subst hk
  split at h
  ·rename_i hn
   obtain rfl:=X25 h
   have h6:a.Next.V6=false:=by
    unfold Fz at hn
    cases h6:a.Next.V6
    ·rfl
    rw[h6] at hn;simp at hn
   rw[if_pos rfl,if_pos rfl,Z5 v.n h6];rfl
  cases h
 rename_i h3
 rw[if_neg h3,if_neg h3]
 split at h
 ·rename_i hk
  subst hk
  split at h
  ·obtain rfl:=X25 h
   have:=v.m
   rw[if_pos rfl,if_pos rfl,dC (by omega)];rfl
  cases h
 rename_i h4
 rw[if_neg h4,if_neg h4]
 split at h
 ·rename_i hk
  subst hk
  split at h
  ·obtain rfl:=X25 h
   have:=v.r
   rw[if_pos rfl,if_pos rfl,dC (by omega)];rfl
  cases h
 rename_i h5
 rw[if_neg h5,if_neg h5]
 split at h
 ·rename_i hk
  subst hk
  split at h
  ·obtain rfl:=X25 h
   rw[if_pos rfl,if_pos rfl,ak v.c ‹_›];rfl
  cases h
 rename_i h8
 rw[if_neg h8,if_neg h8]
 split at h
 ·rename_i hk
  subst hk
  split at h
  ·obtain rfl:=X25 h
   rw[if_pos rfl,if_pos rfl,Y9 v.l ‹_›];rfl
  cases h
 rename_i h32
 rw[if_neg h32,if_neg h32]
 split at h
 ·rename_i hk
  subst hk
  split at h
  ·obtain rfl:=X25 h
   have:=v.t
   rw[if_pos rfl,if_pos rfl,bq (by omega)];rfl
  cases h
 cases h
theorem cn {s a:JAC}(v:VA a){x:JAA}(h:x∈wrS a):stepS s x=some (J2 s a x.Type_):=by
 unfold stepS
 rcases (Ji v.O).1 h with ⟨k,h⟩|h
 ·obtain⟨b,hb,rfl⟩:=Fv.1 h
  dsimp only
  rw[if_neg (Nw hb),if_pos (WZ (Nw hb)),dc v hb]
 have hf:=UY (EC v.O h).1
 rw[if_pos hf]
 rcases FH x.Type_ with ⟨_,e⟩|⟨_,e⟩|⟨_,e⟩|⟨_,e⟩|⟨_,e⟩|⟨_,e⟩|⟨_,e⟩|⟨_,e⟩|⟨e1,e2,e3,e4,e5,e6,e7,e8,_⟩
 iterate 8 (rw[e] at hf;exact absurd hf (by decide))
 unfold J2
 rw[if_neg e1,if_neg e2,if_neg e3,if_neg e4,if_neg e5,if_neg e6,if_neg e7,if_neg e8]
theorem Xv {a:JAC}(v:VA a) :∀(l:List JAA) (s:JAC),(∀x∈l,x∈wrS a)->KQ s l=some (l.foldl (fun s x=>J2 s a x.Type_) s)
 | [],_,_=>rfl
 | x::t,s,h=>by
  unfold KQ
  rw[cn v (h x (by simp)),Option.bind_some,Xv v t _ fun y hy=>h y (X19 _ hy)]
  rfl
theorem Yv (s a:JAC)(k:Int):(J2 s a k).Origin=(if k=1 then a.Origin else s.Origin)/\(J2 s a k).Path=(if k=2 then a.Path else s.Path)/\(J2 s a k).Next=(if k=3 then a.Next else s.Next)/\(J2 s a k).MED=(if k=4 then a.MED else s.MED)/\
  (J2 s a k).Pref=(if k=5 then a.Pref else s.Pref)/\(J2 s a k).Communities=(if k=8 then a.Communities else s.Communities)/\(J2 s a k).JAF=(if k=32 then a.JAF else s.JAF)/\(J2 s a k).OTC=(if k=35 then a.OTC else s.OTC)/\(J2 s a k).Other=s.Other:=by
 unfold J2
 rcases FH k with ⟨e,_⟩|⟨e,_⟩|⟨e,_⟩|⟨e,_⟩|⟨e,_⟩|⟨e,_⟩|⟨e,_⟩|⟨e,_⟩|⟨e1,e2,e3,e4,e5,e6,e7,e8,_⟩
 iterate 8 (subst e;exact⟨rfl,rfl,rfl,rfl,rfl,rfl,rfl,rfl,rfl⟩)
 simp only[e1,e2,e3,e4,e5,e6,e7,e8,if_false,and_self]
theorem PZ (a:JAC) :∀(l:List JAA) (s:JAC),let r:=l.foldl (fun s x=>J2 s a x.Type_) s
  r.Origin=(if Da l 1=true then a.Origin else s.Origin)/\r.Path=(if Da l 2=true then a.Path else s.Path)/\r.Next=(if Da l 3=true then a.Next else s.Next)/\r.MED=(if Da l 4=true then a.MED else s.MED)/\
  r.Pref=(if Da l 5=true then a.Pref else s.Pref)/\r.Communities=(if Da l 8=true then a.Communities else s.Communities)/\r.JAF=(if Da l 32=true then a.JAF else s.JAF)/\r.OTC=(if Da l 35=true then a.OTC else s.OTC)/\r.Other=s.Other
 | [],s=>⟨rfl,rfl,rfl,rfl,rfl,rfl,rfl,rfl,rfl⟩
 | x::t,s=>by
  have ih:=PZ a t (J2 s a x.Type_)
  have h:=Yv s a x.Type_
  have hh :∀(k:Int) {β:Type} (p q:β),(if Da (x::t) k=true then p else q)=if Da t k=true then p else if x.Type_=k then p else q:=by
   intro k β p q
   have:Da (x::t) k=(k==x.Type_ || Da t k):=rfl
   rw[this]
   by_cases e:x.Type_=k
   ·have e2:(k==x.Type_)=true:=by simp[e]
    rw[e2,if_pos e];simp
   have e2:(k==x.Type_)=false:=by simp[Ne.symm e]
   rw[e2,if_neg e];simp
  simp only[List.foldl_cons,hh]
  dsimp only at ih
  rw[h.1,h.2.1,h.2.2.1,h.2.2.2.1,h.2.2.2.2.1,h.2.2.2.2.2.1,h.2.2.2.2.2.2.1,h.2.2.2.2.2.2.2.1,h.2.2.2.2.2.2.2.2] at ih
  exact ih
theorem U1 {a:JAC}(v:VA a){k:Int}(hk:fl k≠0):Da (wrS a) k=(G a k).isSome:=by
 rw[X28,II]
 constructor
 ·rintro⟨y,hy,e⟩
  rcases (Ji v.O).1 hy with ⟨j,h⟩|h
  ·obtain⟨b,hb,rfl⟩:=Fv.1 h
   dsimp only at e
   rw[<- e,hb];rfl
  have:=UY (EC v.O h).1
  rw[e] at this
  exact absurd this hk
 intro h
 obtain⟨b,hb⟩:=Option.isSome_iff_exists.1 h
 exact⟨_,(Ji v.O).2 (.inl ⟨k,Fv.2 ⟨b,hb,rfl⟩⟩),rfl⟩
theorem eX {a:JAC}(v:VA a){x:JAA}(h:x∈wrS a):P5 x=false:=by
 unfold P5
 rcases (Ji v.O).1 h with ⟨k,h⟩|h
 ·obtain⟨b,hb,rfl⟩:=Fv.1 h
  have:unk k=false:=by
   unfold unk
   rw[decide_eq_false (Nw hb)];rfl
  rw[this];rfl
 have e:=(EC v.O h).2.2.2.1
 have:(bt x.Flags 128==0)=false:=by rw[e];decide
 rw[this,Bool.and_false]
theorem ay {a:JAC}(v:VA a){l:List JAA}(hd:Ip l)(hm :∀x,x∈l↔x∈wrS a):F8 l=a.Other:=by
 refine QH Fh (M4 hd) ((JK v.O).imp fun {x y} h=>by rw[Vh];exact h) fun y=>?_
 rw[UF]
 constructor
 ·rintro⟨x,hx,hk,rfl⟩
  rcases (Ji v.O).1 ((hm x).1 hx) with ⟨k,h⟩|h
  ·obtain⟨b,hb,rfl⟩:=Fv.1 h
   have:unk k=false:=by
    unfold unk
    rw[decide_eq_false (Nw hb)];rfl
   unfold I3 at hk
   dsimp only at hk
   rw[this] at hk;simp at hk
  have e:conv x=x:=by
   have:=(EC v.O h).2.2.2.1
   obtain⟨f,t,d⟩:=x
   dsimp only at this
   subst this
   rfl
  rw[e];exact h
 intro h
 obtain⟨h1,h2,h3,h4,h5⟩:=EC v.O h
 refine⟨y,(hm y).2 ((Ji v.O).2 (.inr h)),?_,?_⟩
 ·unfold I3
  have e:(bt y.Flags 64 != 0)=true:=by rw[h4];decide
  rw[h1,e]
  simp only[Bool.true_and,X27,decide_eq_true_eq]
  exact⟨⟨h2,h3⟩,h5⟩
 obtain⟨f,t,d⟩:=y
 dsimp only at h4
 subst h4
 rfl
theorem bg {a:JAC}(v:VA a){l:List JAA}(hp:l.Perm (wrS a)):rdS l=(Uc a,0):=by
 have hd:Ip l:=(hp.pairwise_iff fun h e=>h e.symm).2 (Uw v.O)
 have hm :∀x,x∈l↔x∈wrS a:=fun x=>hp.mem_iff
 have hbad:l.any P5=false:=by
  rw[List.any_eq_false]
  intro x hx
  rw[eX v ((hm x).1 hx)];decide
 have hT :∀k,Da l k=Da (wrS a) k:=by
  intro k
  rw[X28,II,II]
  exact⟨fun ⟨y,h1,h2⟩=>⟨y,(hm y).1 h1,h2⟩,fun ⟨y,h1,h2⟩=>⟨y,(hm y).2 h1,h2⟩⟩
 unfold rdS
 rw[OI hd,hbad,if_neg (by decide),Xv v l eA fun x hx=>(hm x).1 hx,ay v hd hm]
 dsimp only
 rw[if_neg (by have:=v.e;omega)]
 congr 1
 have f:=PZ a l eA
 dsimp only at f
 obtain⟨f1,f2,f3,f4,f5,f6,f7,f8,f9⟩:=f
 generalize List.foldl (fun s x=>J2 s a x.Type_) eA l=r at f1 f2 f3 f4 f5 f6 f7 f8 f9
 rw[hT,U1 v (by decide)] at f1 f2 f3 f4 f5 f6 f7 f8
 have g1:r.Origin=a.Origin:=by
  rw[f1]
  have:G a 1=if a.Origin≠-1 then some [Aa a.Origin] else none:=rfl
  rw[this]
  by_cases h:a.Origin=-1
  ·simp[h,eA]
  simp[h]
 have g2:r.Path=a.Path:=by
  rw[f2]
  have:G a 2=if a.Origin≠-1\/a.Path≠[] then some (Ft a.Path) else none:=rfl
  rw[this]
  by_cases h:a.Origin≠-1\/a.Path≠[]
  ·rw[if_pos h];rfl
  rw[if_neg h]
  have:a.Path=[]:=Classical.byContradiction fun q=>h (.inr q)
  rw[this];rfl
 have g3:r.Next=if a.Next.V6=true then ⟨false,0,0⟩ else a.Next:=by
  rw[f3]
  have:G a 3=if Fz a=true then some (b4 a.Next.Lo.toNat) else none:=rfl
  rw[this]
  unfold Fz
  cases h6:a.Next.V6
  ·cases he:Addr.eqd a.Next ⟨false,0,0⟩
   ·rfl
   have:=(fG _ _).1 he
   rw[this];rfl
  rfl
 have g4:r.MED=a.MED:=by
  rw[f4]
  have:G a 4=if a.MED≠-1 then some (w4 a.MED) else none:=rfl
  rw[this]
  by_cases h:a.MED=-1
  ·simp[h,eA]
  simp[h]
 have g5:r.Pref=a.Pref:=by
  rw[f5]
  have:G a 5=if a.Pref≠-1 then some (w4 a.Pref) else none:=rfl
  rw[this]
  by_cases h:a.Pref=-1
  ·simp[h,eA]
  simp[h]
 have g6:r.Communities=a.Communities:=by
  rw[f6]
  have:G a 8=if a.Communities≠[] then some (a.Communities.flatMap IF) else none:=rfl
  rw[this]
  by_cases h:a.Communities=[]
  ·simp[h,eA]
  simp[h]
 have g7:r.JAF=a.JAF:=by
  rw[f7]
  have:G a 32=if a.JAF≠[] then some (a.JAF.flatMap Gg) else none:=rfl
  rw[this]
  by_cases h:a.JAF=[]
  ·simp[h,eA]
  simp[h]
 have g8:r.OTC=a.OTC:=by
  rw[f8]
  have:G a 35=if a.OTC≠-1 then some (w4 a.OTC) else none:=rfl
  rw[this]
  by_cases h:a.OTC=-1
  ·simp[h,eA]
  simp[h]
 obtain⟨ro,rp,rn,rm,rr,rt,rc,rl,re⟩:=r
 dsimp only at g1 g2 g3 g4 g5 g6 g7 g8
 unfold Uc
 rw[g1,g2,g3,g4,g5,g6,g7,g8]
def okJ (x:JAA):Bool:=decide (0<=x.Flags)&&(decide (x.Flags<=255)&&(decide (0<=x.Type_)&&(decide (x.Type_<=255)&&decide ((x.Data.length:Int)<=65535))))
def hdB (x:JAA):List UInt8:=if decide ((x.Data.length:Int) > 255)=true then ([(Aa ((BitVec.ofInt 8 ((Aa ((BitVec.ofInt 8 ((Aa x.Flags).toNat:Int) &&& BitVec.ofInt 8 224).toNat:Int)).toNat:Int) ||| BitVec.ofInt 8 16).toNat:Int)),(Aa x.Type_),(Aa (Int.fdiv (x.Data.length:Int) (2^(min (Int.toNat 8) 64)))),(Aa (x.Data.length:Int))]:List UInt8)
 else ([(Aa ((BitVec.ofInt 8 ((Aa x.Flags).toNat:Int) &&& BitVec.ofInt 8 224).toNat:Int)),(Aa x.Type_),(Aa (x.Data.length:Int))]:List UInt8)
def J4 (x:JAA):List UInt8:=hdB x++x.Data
def Ci (l:List JAA):List UInt8:=l.flatMap J4
def CG (l:List JAA):List UInt8×Int:=if l.all okJ=true then (if (Ci l).length > 2048 then ([],3) else (Ci l,0)) else ([],1)
theorem Qu (x:JAA):(J4 x).length<=x.Data.length+4:=by
 unfold J4 hdB
 rw[X11]
 split<;>simp<;>omega
theorem TX {N:Nat} :∀{l:List JAA},(∀x∈l,x.Data.length<=N)->(Ci l).length<=l.length*(N+4)
 | [],_=>by simp[Ci]
 | x::t,h=>by
  have ih:=TX (l:=t) fun y hy=>h y (X19 _ hy)
  have h1:=Qu x
  have h2:=h x (by simp)
  unfold Ci at ih ⊢
  rw[List.flatMap_cons,X11,X12,X32]
  omega
theorem aj {x:JAA}{v:List UInt8}{ρ:Type}{K:List UInt8->Option ρ}(hv:v.length+4<=1000000000) :
  AI (τ:=(List UInt8)) (fun k12=>
    if (decide ((x.Data.length:Int) > 255))=true then
     Option.bind (apnd (α:=UInt8) 1 v ([(Aa ((BitVec.ofInt 8 ((Aa ((BitVec.ofInt 8 ((Aa x.Flags).toNat:Int) &&& BitVec.ofInt 8 224).toNat:Int)).toNat:Int) ||| BitVec.ofInt 8 16).toNat:Int)),(Aa x.Type_),(Aa (Int.fdiv (x.Data.length:Int) (2^(min (Int.toNat 8) 64)))),(Aa (x.Data.length:Int))]:List UInt8)) fun v13=>
     k12 v13
    else
     Option.bind (apnd (α:=UInt8) 1 v ([(Aa ((BitVec.ofInt 8 ((Aa x.Flags).toNat:Int) &&& BitVec.ofInt 8 224).toNat:Int)),(Aa x.Type_),(Aa (x.Data.length:Int))]:List UInt8)) fun v14=>
     k12 v14
   ) K=K (v++hdB x):=by
 rw[AH]
 unfold hdB
 split
 ·rw[AO (by decide) (by simp;omega),AC]
 rw[AO (by decide) (by simp;omega),AC]
theorem ZV {l:List JAA}(h1:l.length<=1000)(h2 :∀x∈l,x.Data.length<=100000):IG l=some (CG l):=by
 have hlen:=TX h2
 have hlen2:l.length*(100000+4)<=1000*100004:=X31 _ h1
 unfold IG CG
 rw[AH]
 refine (Z2 (g:=okJ) (r0:=some ([],1)) fun next x i _=>?_).trans ?_
 ·have e:okJ x=!(decide (x.Flags<0) || (decide (x.Flags > 255) || (decide (x.Type_<0) || (decide (x.Type_ > 255) || decide ((x.Data.length:Int) > 65535))))):=by
   unfold okJ
   rw[X28]
   simp only[X27,Bool.not_eq_true',Bool.or_eq_false_iff,decide_eq_true_eq,decide_eq_false_iff_not]
   omega
  rw[AH,e]
  cases decide (x.Flags < 0)<;>cases decide (x.Flags > 255)<;>cases decide (x.Type_ < 0)<;>cases decide (x.Type_ > 255)<;>cases decide ((x.Data.length:Int) > 65535)<;>rfl
 cases ha:l.all okJ
 ·rfl
 rw[cond_true,if_pos rfl,AH]
 refine (Rn (g:=J4) (N:=999999990) (by show [].length+(Ci l).length<=_;simp only[X13];omega) fun next x i v hx hv=>?_).trans ?_
 ·unfold J4 at hv ⊢
  rw[X11] at hv
  have hh:(hdB x).length<=4/\3<=(hdB x).length:=by unfold hdB;split<;>simp
  rw[aj (by omega),AO (by decide) (by rw[X11];omega),AC,List.append_assoc]
 show (if decide (((Ci l).length:Int) > 2048)=true then _ else _)=_
 by_cases hc:(Ci l).length > 2048
 ·rw[if_pos (by simp only[decide_eq_true_eq];omega),if_pos hc]
 rw[if_neg (by simp only[decide_eq_true_eq];omega),if_neg hc]
 rfl
theorem Yf {l:List JAA}(h1:l.length<=1000)(h2 :∀x∈l,x.Data.length<=100000):E5 l=some (CG l):=by
 unfold E5 CG
 rw[AH]
 refine (Z2 (g:=okJ) (r0:=some ([],1)) fun next x i _=>?_).trans ?_
 ·have e:okJ x=((decide (0<=x.Flags)&&decide (x.Flags<=255))&&((decide (0<=x.Type_)&&decide (x.Type_<=255))&&!decide ((x.Data.length:Int) > 65535))):=by
   unfold okJ
   rw[X28]
   simp only[X27,Bool.not_eq_true',decide_eq_true_eq,decide_eq_false_iff_not]
   omega
  rw[AH,e,GH,AC,GH]
  cases decide (0<=x.Flags)<;>cases decide (x.Flags<=255)<;>cases decide (0<=x.Type_)<;>cases decide (x.Type_<=255)<;>cases decide ((x.Data.length:Int) > 65535)<;>rfl
 cases ha:l.all okJ
 ·rfl
 rw[cond_true,if_pos rfl,AH]
 have key :∀(K:List UInt8->Option (List UInt8×Int)) (body:(List UInt8->Option (List UInt8×Int))->JAA->Nat->List UInt8->Option (List UInt8×Int)),(∀next x i v,v.length<=2048->x.Data.length<=100000->body next x i v=if (v++J4 x).length > 2048 then some ([],3) else next (v++J4 x))->
   ∀(t:List JAA) (i:Nat) (v:List UInt8),(∀x∈t,x.Data.length<=100000)->v.length<=2048->Ao K body t i v=if (v++Ci t).length > 2048 then some ([],3) else K (v++Ci t):=by
  intro K body hb t
  induction t with
  | nil=>
   intro i v _ hv
   have e:v++Ci []=v:=by simp[Ci]
   rw[e,if_neg (by omega)]
   rfl
  | cons x t ih=>
   intro i v hx hv
   show body (fun s=>Ao K body t (i+1) s) x i v=_
   have e:v++Ci (x::t)=(v++J4 x)++Ci t:=by
    unfold Ci
    rw[List.flatMap_cons,List.append_assoc]
   rw[hb _ x i v hv (hx x (by simp)),e]
   by_cases hc:(v++J4 x).length > 2048
   ·rw[if_pos hc,if_pos (by rw[X11];omega)]
   rw[if_neg hc,ih (i+1) _ (fun y hy=>hx y (X19 _ hy)) (by omega)]
 refine (key _ _ (fun next x i v hv hd=>?_) l 0 [] h2 (by simp)).trans ?_
 ·have hh:(hdB x).length<=4:=by unfold hdB;split<;>simp
  unfold J4
  rw[aj (by omega),AO (by decide) (by rw[X11];omega),AC,List.append_assoc]
  by_cases hc:(v++(hdB x++x.Data)).length > 2048
  ·rw[if_pos (by simp only[decide_eq_true_eq];omega),if_pos hc]
  rw[if_neg (by simp only[decide_eq_true_eq];omega),if_neg hc]
 rw[List.nil_append]
 split<;>rfl
theorem TZ {l:List JAA}:(CG l).1.length<=2048:=by
 unfold CG
 split
 ·split
  ·simp
  dsimp only;omega
 simp
theorem ZK {d:List UInt8}(h:d.length=4):(addrOf d).ok=true:=by
 match d,h with
 | [a,b,c,e],_=>
  have h1 :∀K:Addr->Option (Addr×Int),Ao (σ:=Addr) (fun v4=>K v4) (fun next5 x6 _ v4=>next5 (Un v4 x6)) [a,b,c,e] 0 ⟨false,0,UInt64.ofNat 0⟩=K ⟨false,0,UInt64.ofNat (val [a,b,c,e])⟩:=by
   intro K
   have ha:=a.toNat_lt
   have hb:=b.toNat_lt
   have hc:=c.toNat_lt
   rw[Xu]
   rw[List.foldl_cons,If (by omega),List.foldl_cons,If (by omega),List.foldl_cons,If (by omega),List.foldl_cons,If (by omega),List.foldl_nil]
   rfl
  have main:A5 [a,b,c,e]=some (⟨false,0,UInt64.ofNat (val [a,b,c,e])⟩,0):=h1 fun v8=>some (v8,0)
  have hv:=MO [a,b,c,e]
  simp only[X12,X13] at hv
  unfold addrOf
  rw[main]
  show Addr.ok ⟨false,0,UInt64.ofNat (val [a,b,c,e])⟩=true
  have e2:(UInt64.ofNat (val [a,b,c,e])).toNat=val [a,b,c,e]:=by rw[UInt64.toNat_ofNat'];omega
  have e3:decide (((UInt64.ofNat (val [a,b,c,e])).toNat:Int)<4294967296)=true:=decide_eq_true (by rw[e2];omega)
  unfold Addr.ok
  dsimp only
  rw[e3]
  rfl
structure VB (a:JAC):Prop where
 o:-1<=a.Origin/\a.Origin<=2
 p:GR a.Path=true
 n:a.Next.ok=true
 m:-1<=a.MED/\a.MED<=4294967295
 r:-1<=a.Pref/\a.Pref<=4294967295
 t:a.OTC=-1\/(1<=a.OTC/\a.OTC<=4294967295)
 c:EY a.Communities=true
 l:ET a.JAF=true
theorem VB.empty:VB eA:=⟨by decide,rfl,by decide,by decide,by decide,.inl rfl,rfl,rfl⟩
theorem VB.step {a a':JAC}{x:JAA}(v:VB a)(hd:x.Data.length<=1000000)(h:stepS a x=some a'):VB a':=by
 unfold stepS at h
 split at h
 ·obtain rfl:=X25 h
  exact v
 split at h
 rotate_left
 ·cases h
 unfold I9 at h
 split at h
 ·obtain⟨n,hn,rfl⟩:=Option.map_eq_some_iff.1 h
  unfold LD at hn
  split at hn
  ·rename_i hc
   obtain rfl:=X25 hn
   have:0<=Eg x.Data:=by rw[GY (by omega)];omega
   exact⟨⟨by dsimp only;omega,hc.2⟩,v.p,v.n,v.m,v.r,v.t,v.c,v.l⟩
  cases hn
 split at h
 ·obtain⟨n,hn,rfl⟩:=Option.map_eq_some_iff.1 h
  unfold Og at hn
  cases hq:rdL x.Data [] with
  | none=>rw[hq] at hn;cases hn
  | some p=>
   rw[hq,Option.bind_some] at hn
   have hs:=aX hd hq
   rw[On (by omega) (by omega)] at hn
   split at hn
   ·obtain rfl:=X25 hn
    exact⟨v.o,‹_›,v.n,v.m,v.r,v.t,v.c,v.l⟩
   cases hn
 split at h
 ·obtain⟨n,hn,rfl⟩:=Option.map_eq_some_iff.1 h
  unfold Qg at hn
  split at hn
  ·obtain rfl:=X25 hn
   exact⟨v.o,v.p,ZK ‹_›,v.m,v.r,v.t,v.c,v.l⟩
  cases hn
 split at h
 ·obtain⟨n,hn,rfl⟩:=Option.map_eq_some_iff.1 h
  unfold rd4 at hn
  split at hn
  ·obtain rfl:=X25 hn
   have:=LI ‹_›
   exact⟨v.o,v.p,v.n,⟨by dsimp only;omega,by dsimp only;omega⟩,v.r,v.t,v.c,v.l⟩
  cases hn
 split at h
 ·obtain⟨n,hn,rfl⟩:=Option.map_eq_some_iff.1 h
  unfold rd4 at hn
  split at hn
  ·obtain rfl:=X25 hn
   have:=LI ‹_›
   exact⟨v.o,v.p,v.n,v.m,⟨by dsimp only;omega,by dsimp only;omega⟩,v.t,v.c,v.l⟩
  cases hn
 split at h
 ·obtain⟨n,hn,rfl⟩:=Option.map_eq_some_iff.1 h
  unfold OA at hn
  split at hn
  ·rename_i hc
   obtain rfl:=X25 hn
   exact⟨v.o,v.p,v.n,v.m,v.r,v.t,QX (RA _) (by rw[Oa];omega),v.l⟩
  cases hn
 split at h
 ·obtain⟨n,hn,rfl⟩:=Option.map_eq_some_iff.1 h
  unfold JO at hn
  split at hn
  ·rename_i hc
   obtain rfl:=X25 hn
   exact⟨v.o,v.p,v.n,v.m,v.r,v.t,v.c,QK (OC _ (RJ _)) (by rw[ML,HK];omega)⟩
  cases hn
 split at h
 ·obtain⟨n,hn,rfl⟩:=Option.map_eq_some_iff.1 h
  unfold Vr at hn
  split at hn
  ·rename_i hc
   obtain rfl:=X25 hn
   have:=LI hc.1
   have:=hc.2
   exact⟨v.o,v.p,v.n,v.m,v.r,.inr ⟨by dsimp only;omega,by dsimp only;omega⟩,v.c,v.l⟩
  cases hn
 obtain rfl:=X25 h
 exact v
def okB (x:JAA):Prop:=(x.Flags=64\/x.Flags=128\/x.Flags=192\/x.Flags=224)/\0<=x.Type_/\x.Type_<=255/\x.Data.length<=255
theorem bw {x:JAA}(h:okB x)(e:List UInt8) :∃f t,J4 x++e=f::t/\stp f t=some (x,e):=by
 obtain⟨hf,h1,h2,h3⟩:=h
 have hh:hdB x=([(Aa ((BitVec.ofInt 8 ((Aa x.Flags).toNat:Int) &&& BitVec.ofInt 8 224).toNat:Int)),(Aa x.Type_),(Aa (x.Data.length:Int))]:List UInt8):=by
  unfold hdB
  rw[if_neg (by simp only[decide_eq_true_eq];omega)]
 obtain⟨f,hfe⟩ :∃f,f=Aa ((BitVec.ofInt 8 ((Aa x.Flags).toNat:Int) &&& BitVec.ofInt 8 224).toNat:Int):=⟨_,rfl⟩
 have h4:hd4 f=false/\flagsOf f=x.Flags:=by
  rw[hfe]
  rcases hf with e | e | e | e<;>rw[e]<;>decide
 have hN:hdN f=3:=by unfold hdN;rw[h4.1];rfl
 refine⟨f,Aa x.Type_::Aa (x.Data.length:Int)::(x.Data++e),?_,?_⟩
 ·unfold J4
  rw[hh,hfe]
  simp
 have hs:sizeOf (f::Aa x.Type_::Aa (x.Data.length:Int)::(x.Data++e)) 3=x.Data.length:=by
  have:sizeOf (f::Aa x.Type_::Aa (x.Data.length:Int)::(x.Data++e)) 3=(Aa (x.Data.length:Int)).toNat:=by simp[sizeOf,val]
  rw[this,BU,UInt8.toNat_ofNat']
  omega
 have ht:((Aa x.Type_).toNat:Int)=x.Type_:=by
  obtain⟨n,hn⟩ :∃n:Nat,x.Type_=n:=⟨x.Type_.toNat,by omega⟩
  rw[hn,BU,UInt8.toNat_ofNat']
  omega
 unfold stp
 rw[hN,hs,if_neg (by simp only[X12,X11];omega)]
 have e1:(f::Aa x.Type_::Aa (x.Data.length:Int)::(x.Data++e)).drop 3=x.Data++e:=rfl
 have e2:(f::Aa x.Type_::Aa (x.Data.length:Int)::(x.Data++e)).drop (3+x.Data.length)=e:=by
  rw[<- List.drop_drop,e1]
  simp
 rw[e1,e2,h4.2]
 have e3:(x.Data++e).take x.Data.length=x.Data:=by simp
 rw[e3]
 show some ((⟨x.Flags,((Aa x.Type_).toNat:Int),x.Data⟩:JAA),e)=_
 rw[ht]
theorem dA {b:Bool}{m:Nat}(h:m<2^128):(mkA b m).n=m:=by
 unfold mkA Addr.n
 simp only[UInt64.toNat_ofNat']
 omega
theorem Wm (a:Addr)(n:Nat):a.n/2^(a.w-n)*2^(a.w-n)<=a.n:=Nat.div_mul_le_self _ _
theorem UR {a:Addr}(h:a.ok=true):a.n<2^128:=by
 have:=Addr.n_lt h
 have hw:a.w<=128:=by unfold Addr.w;split<;>omega
 exact Nat.lt_of_lt_of_le this (Nat.pow_le_pow_right (by omega) hw)
theorem cB (m:Nat):(mkA true m).ok=true:=by
 unfold mkA Addr.ok
 simp only[cond_true]
theorem X1 {x y:Bool}(hx:x=true)(hy:y=true):cond false true (cond x y false)=true:=by rw[hx,hy];rfl
theorem bY {m:Nat}(h:m<4294967296):(mkA false m).ok=true:=by
 have e1:m/2^64=0:=Nat.div_eq_of_lt (by omega)
 have e2:(UInt64.ofNat m).toNat=m:=by simp only[UInt64.toNat_ofNat'];omega
 unfold mkA
 rw[e1]
 exact X1 (x:=(((UInt64.ofNat 0).toNat:Int)==0)) (y:=decide (((UInt64.ofNat m).toNat:Int)<4294967296)) (by simp) (decide_eq_true (by rw[e2];omega))
theorem dj {a:Addr}(h:a.ok=true)(n:Nat):(a.cut n).ok=true:=by
 have hc:=Wm a n
 unfold Addr.cut
 cases h6:a.V6
 ·obtain⟨h1,h2⟩:=Addr.ok4 h h6
  have hn:a.n=a.Lo.toNat:=by unfold Addr.n;rw[h1,Nat.zero_mul,Nat.zero_add]
  exact bY (by omega)
 exact cB _
theorem cU {a:Addr}(h:a.ok=true)(n:Nat):(a.cut n).cut n=a.cut n:=by
 have hs:=UR h
 have hc:=Wm a n
 have e1:(a.cut n).n=a.n/2^(a.w-n)*2^(a.w-n):=by unfold Addr.cut;exact dA (by omega)
 have e2:(a.cut n).w=a.w:=by unfold Addr.w;rw[XH]
 have e3:(a.cut n).V6=a.V6:=XH a n
 show mkA (a.cut n).V6 ((a.cut n).n/2^((a.cut n).w-n)*2^((a.cut n).w-n))=mkA a.V6 (a.n/2^(a.w-n)*2^(a.w-n))
 rw[e1,e2,e3,Nat.mul_div_cancel _ (Nat.two_pow_pos _)]
theorem Z0 {a:Addr}(h:a.ok=true){n:Int}(h0:0<=n)(h1:n<=a.w):DU ⟨a.cut n.toNat,n⟩:=by
 have e2:(a.cut n.toNat).w=a.w:=by unfold Addr.w;rw[XH]
 exact⟨dj h _,h0,by simp only;rw[e2];exact h1,cU h _⟩
def byB (a:Addr):List UInt8:=(Bg a).getD []
theorem Gi {a:Addr}(h:a.ok=true):Bg a=some (byB a)/\(byB a).length=a.L:=by
 obtain⟨r,h1,h2,_⟩:=H4 h
 unfold byB
 rw[h1]
 exact⟨rfl,h2⟩
def PI (p:JAE):List UInt8:=Aa p.Len::(byB p.Addr).take ((p.Len.toNat+7)/8)
def An (six:Bool)(l:List JAE):List UInt8:=l.flatMap fun p=>if (p.Addr.V6==six)=true then PI p else []
theorem w_L (a:Addr):a.w=8*a.L/\a.L<=16:=by unfold Addr.w Addr.L;split<;>exact⟨rfl,by omega⟩
theorem OS {p:JAE}(h:DU p):(PI p).length<=17:=by
 obtain⟨h1,h2,h3,_⟩:=h
 obtain⟨_,e2⟩:=Gi h1
 have:=(w_L p.Addr).2
 unfold PI
 simp only[X12,X18]
 omega
theorem HQ (six:Bool)(p:JAE)(t:List JAE):An six (p::t)=(if (p.Addr.V6==six)=true then PI p else [])++An six t:=List.flatMap_cons
theorem Bm {six:Bool} :∀{l:List JAE},(∀p∈l,DU p)->(An six l).length<=17*l.length
 | [],_=>by simp[An]
 | p::t,h=>by
  have h1:=OS (h p (by simp))
  have h2:=Bm (six:=six) (l:=t) fun q hq=>h q (X19 _ hq)
  rw[HQ,X11,X12]
  split
  ·omega
  simp only[X13];omega
theorem LY {l:List JAE}(hl:l.length<=100000)(hg :∀p∈l,DU p)(six:Bool):ER l six=some (An six l):=by
 unfold ER
 rw[AH]
 refine (UK (fun (t:List JAE) _ (s:List UInt8)=>s.length+17*t.length<=10000000/\∀p∈t,DU p) (fun t _ s=>some (s++An six t)) ?_ ?_ l 0 [] ⟨by simp only[X13];omega,hg⟩).trans ?_
 ·intro i s _
  show some s=some (s++[])
  rw[List.append_nil]
 ·rintro next p t i s ⟨h1,h2⟩ hn
  simp only[X12] at h1
  have hp:=h2 p (by simp)
  have hcl:=OS hp
  have ht :∀q∈t,DU q:=fun q hq=>h2 q (X19 _ hq)
  obtain⟨k1,k2,k3,_⟩:=hp
  obtain⟨e1,e2⟩:=Gi k1
  obtain⟨w1,w2⟩:=w_L p.Addr
  rw[AH,HQ]
  by_cases h6:(p.Addr.V6==six)=true
  ·obtain⟨k,hk⟩ :∃k:Nat,p.Len=k:=⟨p.Len.toNat,by omega⟩
   have e3:AN (Int.tdiv (AN (p.Len+7)) 8)=(((p.Len.toNat+7)/8:Nat):Int):=by
    rw[hk,Int.toNat_natCast,AP (x:=(k:Int)+7) (by omega),Int.tdiv_eq_ediv_of_nonneg (by omega),AP (by omega)]
    omega
   have e4:(p.Len.toNat+7)/8<=p.Addr.L:=by omega
   have e5:chk (0<=(0:Int)/\(0:Int)<=(((p.Len.toNat+7)/8:Nat):Int)/\(((p.Len.toNat+7)/8:Nat):Int)<=((byB p.Addr).length:Int))=some ():=if_pos (by rw[e2];omega)
   have e6:List.take (Int.toNat (((p.Len.toNat+7)/8:Nat):Int)-Int.toNat 0) (List.drop (Int.toNat 0) (byB p.Addr))=(byB p.Addr).take ((p.Len.toNat+7)/8):=by
    rw[Int.toNat_natCast];rfl
   rw[if_pos h6,if_pos h6,AO (by decide) (by simp only[X22];omega),AC,e1,AC,e3,e5,AC,e6,
    AO (by decide) (by simp only[X11,X22,X18];omega),AC]
   dsimp only
   rw[hn _ ⟨by
    simp only[X11,X22,X18]
    omega,ht⟩]
   unfold PI
   simp only[List.append_assoc,List.singleton_append,List.cons_append,List.nil_append]
  rw[if_neg h6,if_neg h6]
  dsimp only
  rw[hn _ ⟨by omega,ht⟩,List.nil_append]
 rw[List.nil_append]
theorem Xw {l:List JAA}(hl:l.length<=1000000)(x:JAA):GM l x=some (Ff ltT l x):=by
 unfold GM
 have hf:=cj (p:=(ltT · x)) (l:=l) (by omega) (g:=fun y k=>k (cond true (decide (y.Type_<x.Type_)) false)) (fun y _ k=>rfl) (K:=fun v7=>Option.bind (part l 0 v7) fun v8=>
  Option.bind (apnd (α:=JAA) 40 [] v8) fun _=>
  Option.bind (apnd (α:=JAA) 40 v8 ([x]:List JAA)) fun v9=>
  Option.bind (part l v7 (l.length:Int)) fun v10=>
  Option.bind (apnd (α:=JAA) 40 v9 v10) fun v11=>
  some v11)
 refine Eq.trans hf ?_
 exact Qy (K:=some) (b:=40) (lt:=ltT) (l:=l) (x:=x) (by decide) (by omega)
def lst0 (u:JAG):List JAA:=if 0<u.Announce.length then wrS u.JAC else []
def Hq (u:JAG):List JAA:=if 0<(An true u.Announce).length then Ff ltT (lst0 u) ⟨128,14,[0,2,1,16]++byB u.JAC.Next++[0]++An true u.Announce⟩ else lst0 u
def Bj (u:JAG):List JAA:=if 0<(An true u.Withdraw).length then Ff ltT (Hq u) ⟨128,15,[0,2,1]++An true u.Withdraw⟩ else Hq u
def two (n:Nat):List UInt8:=[Aa (Int.fdiv (n:Int) (2^(min (Int.toNat 8) 64))),Aa (n:Int)]
def Hk (u:JAG)(a:List UInt8):List UInt8:=two (An false u.Withdraw).length++An false u.Withdraw++two a.length++a++An false u.Announce
def Do (u:JAG):List UInt8×Int:=if (CG (Bj u)).2≠0 then ([],(CG (Bj u)).2) else (Hk u (CG (Bj u)).1,0)
structure GoodU (u:JAG):Prop where
 w:u.Withdraw.length<=1000
 n:u.Announce.length<=1000
 gw :∀p∈u.Withdraw,DU p
 ga :∀p∈u.Announce,DU p
 a:0<u.Announce.length->VA u.JAC/\(wrS u.JAC).length<=16/\∀x∈wrS u.JAC,x.Data.length<=768
theorem Tc {u:JAG}(g:GoodU u):GO u=some (Do u):=by
 have cw6:=Bm (six:=true) g.gw
 have cw4:=Bm (six:=false) g.gw
 have ca6:=Bm (six:=true) g.ga
 have ca4:=Bm (six:=false) g.ga
 have hw:=g.w;have hn:=g.n
 have h0:(lst0 u).length<=16/\∀x∈lst0 u,x.Data.length<=768:=by
  unfold lst0
  split
  ·exact (g.a ‹_›).2
  simp
 unfold GO
 have e0 :∀(K:List JAA->Option (List UInt8×Int)),AI (τ:=(List JAA)) (fun k1=>
  if (decide ((u.Announce.length:Int) > 0)) then
   Option.bind (GG u.JAC) fun (v2,v3)=>
   if (v3 != 0) then
    some ([],v3)
   else
    k1 v2
  else
   k1 []) K=K (lst0 u):=by
  intro K
  rw[AH]
  unfold lst0
  by_cases h:0<u.Announce.length
  ·rw[if_pos (by simp only[decide_eq_true_eq];omega),if_pos h,Yg (g.a h).1,AC]
   exact if_neg (by simp)
  rw[if_neg (by simp only[decide_eq_true_eq];omega),if_neg h]
 rw[e0]
 rw[LY (by omega) g.ga,AC]
 have hL:(byB u.JAC.Next).length<=16\/u.Announce.length=0:=by
  rcases Nat.eq_zero_or_pos u.Announce.length with h | h
  ·exact .inr h
  have:=(Gi (g.a h).1.n).2
  have:=(w_L u.JAC.Next).2
  exact .inl (by omega)
 have e1 :∀{ρ:Type} (K:List JAA->Option ρ),AI (τ:=(List JAA)) (fun k6=>
  if (decide (((An true u.Announce).length:Int) > 0)) then
   Option.bind (Bg u.JAC.Next) fun v7=>
   Option.bind (apnd (α:=UInt8) 1 ([(0:UInt8),(2:UInt8),(1:UInt8),(16:UInt8)]:List UInt8) v7) fun v8=>
   Option.bind (apnd (α:=UInt8) 1 v8 ([(0:UInt8)]:List UInt8)) fun v9=>
   Option.bind (apnd (α:=UInt8) 1 v9 (An true u.Announce)) fun v10=>
   Option.bind (GM (lst0 u) (⟨128,14,v10⟩:JAA)) fun v11=>
   k6 v11
  else
   k6 (lst0 u)) K=K (Hq u):=by
  intro ρ K
  rw[AH]
  unfold Hq
  by_cases h:0<(An true u.Announce).length
  ·have hpos:0<u.Announce.length:=by omega
   have hl:(byB u.JAC.Next).length<=16:=hL.resolve_right (by omega)
   rw[if_pos (by simp only[decide_eq_true_eq];omega),if_pos h,(Gi (g.a hpos).1.n).1,AC,AO (by decide) (by simp only[X12,X13];omega),AC,
    AO (by decide) (by simp only[X11,X12,X13];omega),AC,AO (by decide) (by simp only[X11,X12,X13];omega),AC,Xw (by omega),AC]
  rw[if_neg (by simp only[decide_eq_true_eq];omega),if_neg h]
 rw[e1,LY (by omega) g.gw,AC]
 have h1:(Hq u).length<=17/\∀x∈Hq u,x.Data.length<=20000:=by
  unfold Hq
  split
  ·refine⟨by rw[HG];omega,fun x hx=>?_⟩
   rcases D4.1 hx with hx | rfl
   ·have:=h0.2 x hx;omega
   have hl:(byB u.JAC.Next).length<=16:=hL.resolve_right (by omega)
   simp only[X11,X12,X13]
   omega
  exact⟨by omega,fun x hx=>by have:=h0.2 x hx;omega⟩
 have e2 :∀{ρ:Type} (K:List JAA->Option ρ),AI (τ:=(List JAA)) (fun k14=>
  if (decide (((An true u.Withdraw).length:Int) > 0)) then
   Option.bind (apnd (α:=UInt8) 1 ([(0:UInt8),(2:UInt8),(1:UInt8)]:List UInt8) (An true u.Withdraw)) fun v15=>
   Option.bind (GM (Hq u) (⟨128,15,v15⟩:JAA)) fun v16=>
   k14 v16
  else
   k14 (Hq u)) K=K (Bj u):=by
  intro ρ K
  rw[AH]
  unfold Bj
  by_cases h:0<(An true u.Withdraw).length
  ·rw[if_pos (by simp only[decide_eq_true_eq];omega),if_pos h,AO (by decide) (by simp only[X12,X13];omega),AC,Xw (by omega),AC]
  rw[if_neg (by simp only[decide_eq_true_eq];omega),if_neg h]
 rw[e2]
 have h2:(Bj u).length<=18/\∀x∈Bj u,x.Data.length<=20000:=by
  unfold Bj
  split
  ·refine⟨by rw[HG];omega,fun x hx=>?_⟩
   rcases D4.1 hx with hx | rfl
   ·exact h1.2 x hx
   simp only[X11,X12,X13]
   omega
  exact⟨by omega,h1.2⟩
 rw[ZV (by omega) (fun x hx=>by have:=h2.2 x hx;omega),AC]
 have hj:=TZ (l:=Bj u)
 unfold Do
 dsimp only
 by_cases he:(CG (Bj u)).2=0
 ·have hne:¬ (CG (Bj u)).2≠0:=fun q=>q he
  rw[if_neg (by rw[he];decide),if_neg hne,LY (by omega) g.gw,AC,AO (by decide) (by simp only[X12,X13];omega),AC,
   AO (by decide) (by simp only[X11,X12,X13];omega),AC,AO (by decide) (by simp only[X11,X12,X13];omega),AC,
   LY (by omega) g.ga,AC,AO (by decide) (by simp only[X11,X12,X13];omega),AC]
  rfl
 rw[if_pos (by simpa using he),if_pos he]
theorem Xs {a:Addr}(h:a.ok=true){j:Nat}(hj:j<a.L):(byB a)[j]?=some (KE a (a.L-1-j)):=by
 obtain⟨r,h1,h2,h3⟩:=H4 h
 unfold byB
 rw[h1]
 exact h3 j hj
theorem bW {a:Addr}(h:a.ok=true):val (byB a)=a.n:=by
 have hl:=(Gi h).2
 obtain⟨w1,w2⟩:=w_L a
 apply Nat.eq_of_testBit_eq
 intro q
 rw[PV,hl]
 by_cases hq:q<8*a.L
 ·have hj:a.L-1-q/8<a.L:=by omega
  have e1:a.L-1-(a.L-1-q/8)=q/8:=by omega
  rw[if_pos hq,List.getD_eq_getElem?_getD,Xs h hj,Option.getD_some,e1]
  unfold KE
  rw[UInt8.toNat_ofNat',show (2:Nat)^8=2^8 from rfl,Nat.testBit_mod_two_pow,Nat.testBit_div_two_pow,Nat.mod_add_div]
  simp[Nat.mod_lt]
 rw[if_neg hq]
 exact (Nat.testBit_lt_two_pow (Nat.lt_of_lt_of_le (Addr.n_lt h) (Nat.pow_le_pow_right (by omega) (by omega)))).symm
theorem al {a:Addr}(h:a.ok=true):mkA a.V6 a.n=a:=by
 have h1:=a.Hi.toNat_lt
 have h2:=a.Lo.toNat_lt
 have e1:UInt64.ofNat (a.n/2^64)=a.Hi:=by
  apply UInt64.toNat_inj.1
  simp only[UInt64.toNat_ofNat']
  unfold Addr.n
  omega
 have e2:UInt64.ofNat a.n=a.Lo:=by
  apply UInt64.toNat_inj.1
  simp only[UInt64.toNat_ofNat']
  unfold Addr.n
  omega
 unfold mkA
 rw[e1,e2]
theorem eR {a:Addr}{six:Bool}(h:a.V6=six):a.L=pw six:=by
 unfold Addr.L pw
 rw[h]
theorem Qh {a:Addr}(h:a.ok=true):addrOf (byB a)=a:=by
 have hl:=(Gi h).2
 have hL:=eR (a:=a) rfl
 have h4:(byB a).length=4\/(byB a).length=16:=by
  rw[hl,hL];unfold pw;cases a.V6<;>simp
 have hn:=UR h
 rw[(TO h4).2,bW h,Nat.mod_eq_of_lt hn]
 have e:((byB a).length==16)=a.V6:=by
  rw[hl,hL];unfold pw;cases a.V6<;>rfl
 rw[e,al h]
theorem aW {p:JAE}(h:DU p){k:Nat}(hk:(p.Len.toNat+7)/8<=k)(hL:k<=p.Addr.L):(byB p.Addr).take k++List.replicate (p.Addr.L-k) 0=byB p.Addr:=by
 obtain⟨g1,g2,g3,g4⟩:=h
 have hl:=(Gi g1).2
 obtain⟨w1,w2⟩:=w_L p.Addr
 have hs:=UR g1
 apply List.ext_getElem?
 intro j
 by_cases hj:j<k
 ·rw[List.getElem?_append_left (by rw[X18];omega),List.getElem?_take,if_pos hj]
 rw[List.getElem?_append_right (by rw[X18];omega),X18,Nat.min_eq_left (by omega)]
 by_cases hj2:j<p.Addr.L
 ·rw[Xs g1 hj2,List.getElem?_replicate,if_pos (by omega)]
  congr 1
  unfold KE
  have hn:p.Addr.n=p.Addr.n/2^(p.Addr.w-p.Len.toNat)*2^(p.Addr.w-p.Len.toNat):=by
   have e1:(p.Addr.cut p.Len.toNat).n=p.Addr.n/2^(p.Addr.w-p.Len.toNat)*2^(p.Addr.w-p.Len.toNat):=by
    unfold Addr.cut
    exact dA (Nat.lt_of_le_of_lt (Wm _ _) hs)
   rw[g4] at e1
   exact e1
  have hle:8*(p.Addr.L-1-j)+8<=p.Addr.w-p.Len.toNat:=by omega
  obtain⟨d,hd⟩ :∃d,p.Addr.w-p.Len.toNat=8*(p.Addr.L-1-j)+(8+d):=⟨p.Addr.w-p.Len.toNat-(8*(p.Addr.L-1-j)+8),by omega⟩
  have hdv:p.Addr.n/2^(8*(p.Addr.L-1-j))=p.Addr.n/2^(p.Addr.w-p.Len.toNat)*2^d*256:=by
   generalize hq:p.Addr.n/2^(p.Addr.w-p.Len.toNat)=q at hn ⊢
   rw[hn,hd,Nat.pow_add,Nat.pow_add]
   have e:q*(2^(8*(p.Addr.L-1-j))*(2^8*2^d))=2^(8*(p.Addr.L-1-j))*(q*2^d*256):=by
    rw[show (2:Nat)^8=256 from rfl,Nat.mul_left_comm]
    congr 1
    rw[Nat.mul_comm 256,Nat.mul_assoc]
   rw[e,Nat.mul_div_cancel_left _ (Nat.two_pow_pos _)]
  rw[hdv]
  apply UInt8.toNat_inj.1
  rw[UInt8.toNat_ofNat',show (2:Nat)^8=256 from rfl,Nat.mul_mod_left]
  rfl
 rw[List.getElem?_replicate,if_neg (by omega),List.getElem?_eq_none (by omega)]
theorem W6 {six:Bool}{p:JAE}(h:DU p)(h6:p.Addr.V6=six)(r:List UInt8):Ll six (Aa p.Len) ((byB p.Addr).take ((p.Len.toNat+7)/8)++r)=some (p,r):=by
 have hz:=aW h (Nat.le_refl _)
 have hg:=h
 obtain⟨g1,g2,g3,g4⟩:=h
 have hl:=(Gi g1).2
 obtain⟨w1,w2⟩:=w_L p.Addr
 have hL:=eR h6
 obtain⟨k,hk⟩ :∃k:Nat,p.Len=k:=⟨p.Len.toNat,by omega⟩
 have ek:p.Len.toNat=k:=by rw[hk,Int.toNat_natCast]
 have en:(Aa p.Len).toNat=k:=by
  rw[hk,BU,UInt8.toNat_ofNat']
  exact Nat.mod_eq_of_lt (by omega)
 have ep:pk (Aa p.Len)=(p.Len.toNat+7)/8:=by unfold pk;rw[en,ek]
 have hlt:((byB p.Addr).take ((p.Len.toNat+7)/8)).length=(p.Len.toNat+7)/8:=by rw[X18];omega
 unfold Ll
 rw[if_neg (by rw[en,ep,X11,hlt];omega)]
 have hf:TS six (Aa p.Len) ((byB p.Addr).take ((p.Len.toNat+7)/8)++r)=byB p.Addr:=by
  unfold TS
  rw[ep,List.take_append_of_le_length (by omega),List.take_take,Nat.min_self,<- hL]
  exact hz (by omega)
 unfold dI
 rw[hf,Qh g1,en,ep,List.drop_append_of_le_length (by omega),List.drop_of_length_le (by omega),List.nil_append]
 rw[ek] at g4
 rw[g4,<- hk]
theorem H9 {six:Bool} :∀{l:List JAE} {acc:List JAE},(∀p∈l,DU p)->IL six (An six l) acc=some (acc++l.filter fun p=>p.Addr.V6==six)
 | [],acc,_=>by
  show some acc=some (acc++[])
  rw[List.append_nil]
 | p::t,acc,h=>by
  have hp:=h p (by simp)
  have ih:=fun acc=>H9 (six:=six) (l:=t) (acc:=acc) fun q hq=>h q (X19 _ hq)
  rw[HQ,List.filter_cons]
  by_cases h6:(p.Addr.V6==six)=true
  ·rw[if_pos h6,if_pos h6]
   unfold PI
   rw[List.cons_append,Tu,W6 hp (by simpa using h6)]
   dsimp only
   rw[ih,List.append_assoc,List.singleton_append]
  rw[if_neg h6,if_neg h6,List.nil_append]
  exact ih acc
theorem Vi {w r:List UInt8}(h:w.length<65536):IX (two w.length++w++r)=some (w,r):=by
 have e1:Int.fdiv (w.length:Int) (2^(min (Int.toNat 8) 64))=((w.length/256:Nat):Int):=by
  have:min (Int.toNat 8) 64=8:=rfl
  have e5:((2:Int)^8)=((2^8:Nat):Int):=by simp
  rw[this,e5,Int.fdiv_eq_ediv_of_nonneg _ (Int.natCast_nonneg _),Int.natCast_ediv]
 have hx:(Aa (Int.fdiv (w.length:Int) (2^(min (Int.toNat 8) 64)))).toNat*256+(Aa (w.length:Int)).toNat=w.length:=by
  rw[e1,BU,BU,UInt8.toNat_ofNat',UInt8.toNat_ofNat']
  omega
 unfold two IX
 simp only[List.cons_append,List.nil_append]
 rw[hx,if_neg (by rw[X11];omega),List.take_append_of_le_length (Nat.le_refl _),List.take_length,List.drop_append_of_le_length (Nat.le_refl _),List.drop_length,List.nil_append]
def bC (x:JAA):Prop:=(x.Flags=64\/x.Flags=128\/x.Flags=192\/x.Flags=224)/\0<=x.Type_/\x.Type_<=255/\x.Data.length<=65535
theorem cu (n:Nat):Int.fdiv (n:Int) (2^(min (Int.toNat 8) 64))=((n/256:Nat):Int):=by
 have:min (Int.toNat 8) 64=8:=rfl
 have e5:((2:Int)^8)=((2^8:Nat):Int):=by simp
 rw[this,e5,Int.fdiv_eq_ediv_of_nonneg _ (Int.natCast_nonneg _),Int.natCast_ediv]
theorem Zi {x:JAA}(h:bC x)(hl:255<x.Data.length)(e:List UInt8) :∃f t,J4 x++e=f::t/\stp f t=some (x,e):=by
 obtain⟨hf,h1,h2,h3⟩:=h
 obtain⟨f,hfe⟩ :∃f,f=Aa ((BitVec.ofInt 8 ((Aa ((BitVec.ofInt 8 ((Aa x.Flags).toNat:Int) &&& BitVec.ofInt 8 224).toNat:Int)).toNat:Int) ||| BitVec.ofInt 8 16).toNat:Int):=⟨_,rfl⟩
 obtain⟨p,hp⟩ :∃p,p=Aa (Int.fdiv (x.Data.length:Int) (2^(min (Int.toNat 8) 64))):=⟨_,rfl⟩
 obtain⟨q,hq⟩ :∃q,q=Aa (x.Data.length:Int):=⟨_,rfl⟩
 have hh:hdB x=[f,Aa x.Type_,p,q]:=by
  unfold hdB
  rw[if_pos (by simp only[decide_eq_true_eq];omega),hfe,hp,hq]
 have h4:hd4 f=true/\flagsOf f=x.Flags:=by
  rw[hfe]
  rcases hf with e | e | e | e<;>rw[e]<;>decide
 have hN:hdN f=4:=by unfold hdN;rw[h4.1];rfl
 have hpq:p.toNat*256+q.toNat=x.Data.length:=by
  rw[hp,hq,cu,BU,BU,UInt8.toNat_ofNat',UInt8.toNat_ofNat']
  omega
 refine⟨f,Aa x.Type_::p::q::(x.Data++e),?_,?_⟩
 ·unfold J4
  rw[hh]
  simp
 have hs:sizeOf (f::Aa x.Type_::p::q::(x.Data++e)) 4=x.Data.length:=by
  rw[<- hpq]
  simp[sizeOf,val]
 have ht:((Aa x.Type_).toNat:Int)=x.Type_:=by
  obtain⟨n,hn⟩ :∃n:Nat,x.Type_=n:=⟨x.Type_.toNat,by omega⟩
  rw[hn,BU,UInt8.toNat_ofNat']
  omega
 unfold stp
 rw[hN,hs,if_neg (by simp only[X12,X11];omega)]
 have e1:(f::Aa x.Type_::p::q::(x.Data++e)).drop 4=x.Data++e:=rfl
 have e2:(f::Aa x.Type_::p::q::(x.Data++e)).drop (4+x.Data.length)=e:=by
  rw[<- List.drop_drop,e1]
  simp
 rw[e1,e2,h4.2]
 have e3:(x.Data++e).take x.Data.length=x.Data:=by simp
 rw[e3]
 show some ((⟨x.Flags,((Aa x.Type_).toNat:Int),x.Data⟩:JAA),e)=_
 rw[ht]
theorem Qr :∀(l acc:List JAA),(∀x∈l,bC x)->P3 (Ci l) acc=some (acc++l)
 | [],acc,_=>by rw[List.append_nil];rfl
 | x::t,acc,h=>by
  have hx:=h x (by simp)
  obtain⟨f,r,h1,h2⟩ :∃f r,J4 x++Ci t=f::r/\stp f r=some (x,Ci t):=by
   rcases Nat.lt_or_ge 255 x.Data.length with q | q
   ·exact Zi hx q _
   exact bw ⟨hx.1,hx.2.1,hx.2.2.1,q⟩ _
  have e:Ci (x::t)=J4 x++Ci t:=by unfold Ci;rw[List.flatMap_cons]
  rw[e,h1,TN,h2]
  show P3 (Ci t) (acc++[x])=_
  rw[Qr t _ fun y hy=>h y (X19 _ hy),List.append_assoc]
  rfl
def sk (x:JAA):Bool:=x.Type_ != 14&&x.Type_ != 15
theorem fo {x:JAA}(h:sk x=false):x.Type_=14\/x.Type_=15:=by
 unfold sk at h
 simp only[Bool.and_eq_false_iff,bne_eq_false_iff_eq] at h
 exact h
theorem UT {x:JAA}(h:sk x=false):unk x.Type_=false/\fl x.Type_=0:=by
 rcases fo h with e | e<;>rw[e]<;>decide
theorem RS :∀(l:List JAA) (a:JAC),KQ a (l.filter sk)=KQ a l
 | [],_=>rfl
 | x::t,a=>by
  rw[List.filter_cons]
  cases hx:sk x with
  | true=>
   rw[if_pos rfl]
   unfold KQ
   cases stepS a x with
   | none=>rfl
   | some b=>exact RS t b
  | false=>
   rw[if_neg (by decide)]
   have hs:stepS a x=some a:=if_pos (UT hx).2
   show _=(stepS a x).bind fun a'=>KQ a' t
   rw[hs,Option.bind_some]
   exact RS t a
theorem U0 {β:Type}{g:JAA->List β}(hg :∀x,sk x=false->g x=[]) :∀l:List JAA,(l.filter sk).flatMap g=l.flatMap g
 | []=>rfl
 | x::t=>by
  rw[List.filter_cons,List.flatMap_cons]
  cases hx:sk x with
  | true=>rw[if_pos rfl,List.flatMap_cons,U0 hg t]
  | false=>rw[if_neg (by decide),hg x hx,List.nil_append,U0 hg t]
theorem di {l:List JAA}(hd:Ip l):rdS (l.filter sk)=rdS l:=by
 have hd2:Ip (l.filter sk):=hd.filter _
 have hb:(l.filter sk).any P5=l.any P5:=by
  rw[X28,List.any_eq_true,List.any_eq_true]
  constructor
  ·rintro⟨x,hx,h⟩
   exact⟨x,(List.mem_filter.1 hx).1,h⟩
  rintro⟨x,hx,h⟩
  refine⟨x,List.mem_filter.2 ⟨hx,?_⟩,h⟩
  cases hs:sk x with
  | true=>rfl
  | false=>
   unfold P5 at h
   rw[(UT hs).1] at h
   cases h
 have hk:F8 (l.filter sk)=F8 l:=by
  unfold F8
  congr 1
  funext k
  refine U0 (fun x hx=>?_) l
  have:I3 x=false:=by unfold I3;rw[(UT hx).1];rfl
  rw[this,Bool.and_false,if_neg (by decide)]
 unfold rdS
 rw[OI hd,OI hd2,hb,RS,hk]
theorem Zh (l:List JAA)(x:JAA):(Ff ltT l x).Perm (x::l):=by
 unfold Ff
 refine List.perm_middle.trans ?_
 rw[List.takeWhile_append_dropWhile]
theorem Fo {p:JAA->Bool}{l:List JAA}{x:JAA}(h:p x=false):(Ff ltT l x).filter p=l.filter p:=by
 unfold Ff
 rw[List.filter_append,List.filter_cons,if_neg (by rw[h];decide),<- List.filter_append,List.takeWhile_append_dropWhile]
theorem J8 {p:JAA->Bool}{l:List JAA}{x:JAA}(h:p x=true)(hl:l.filter p=[]):(Ff ltT l x).filter p=[x]:=by
 have h2:(l.takeWhile (ltT · x)).filter p++(l.dropWhile (ltT · x)).filter p=[]:=by
  rw[<- List.filter_append,List.takeWhile_append_dropWhile];exact hl
 obtain⟨e1,e2⟩:=List.append_eq_nil_iff.1 h2
 unfold Ff
 rw[List.filter_append,List.filter_cons,if_pos h,e1,e2]
 rfl
theorem Vd {l:List JAA}{x:JAA}(hd:Ip l)(hx:C6 l x.Type_=[]):Ip (Ff ltT l x):=by
 refine ((Zh l x).pairwise_iff fun h e=>h e.symm).2 (List.pairwise_cons.2 ⟨fun y hy e=>?_,hd⟩)
 unfold C6 at hx
 rw[List.filter_eq_nil_iff] at hx
 exact hx y hy (by rw[beq_iff_eq];exact e.symm)
def x14 (u:JAG):JAA:=⟨128,14,[0,2,1,16]++byB u.JAC.Next++[0]++An true u.Announce⟩
def x15 (u:JAG):JAA:=⟨128,15,[0,2,1]++An true u.Withdraw⟩
theorem UJ (u:JAG):Hq u=if 0<(An true u.Announce).length then Ff ltT (lst0 u) (x14 u) else lst0 u:=rfl
theorem QB (u:JAG):Bj u=if 0<(An true u.Withdraw).length then Ff ltT (Hq u) (x15 u) else Hq u:=rfl
theorem LV {six:Bool} :∀{l:List JAE},An six l=[]↔l.filter (fun p=>p.Addr.V6==six)=[]
 | []=>by simp[An]
 | p::t=>by
  rw[HQ,List.filter_cons]
  by_cases h6:(p.Addr.V6==six)=true
  ·rw[if_pos h6,if_pos h6]
   unfold PI
   simp
  rw[if_neg h6,if_neg h6,List.nil_append]
  exact LV
theorem Tq {six:Bool}{l:List JAE}:0<(An six l).length↔l.filter (fun p=>p.Addr.V6==six)≠[]:=by
 rw[List.length_pos_iff,ne_eq,LV]
theorem MR :∀(l:List JAE),(l.filter fun p=>p.Addr.V6==false).length+(l.filter fun p=>p.Addr.V6==true).length=l.length
 | []=>rfl
 | p::t=>by
  have ih:=MR t
  rw[List.filter_cons,List.filter_cons]
  cases p.Addr.V6
  ·simp only[beq_self_eq_true,if_true,X12]
   rw[if_neg (by decide)]
   omega
  simp only[beq_self_eq_true,if_true,X12]
  rw[if_neg (by decide)]
  omega
structure WrU (u:JAG):Prop where
 g:GoodU u
 w:u.Withdraw.length<=256
 n:u.Announce.length<=256
 s :∀p∈u.Announce,p.Addr.V6=u.JAC.Next.V6
 o:u.Announce≠[]->u.JAC.Origin≠-1/\u.JAC.Next≠zAd
theorem Iz {a:JAC}(v:VA a){x:JAA}(h:x∈wrS a):sk x=true/\(x.Flags=64\/x.Flags=128\/x.Flags=192\/x.Flags=224)/\0<=x.Type_/\x.Type_<=255:=by
 rcases (Ji v.O).1 h with ⟨k,h⟩|h
 ·obtain⟨b,hb,rfl⟩:=Fv.1 h
  rcases FH k with ⟨e,f⟩|⟨e,f⟩|⟨e,f⟩|⟨e,f⟩|⟨e,f⟩|⟨e,f⟩|⟨e,f⟩|⟨e,f⟩|⟨_,_,_,_,_,_,_,_,f⟩
  iterate 8
   ·subst e
    unfold sk
    dsimp only
    rw[f]
    decide
  rw[OX f] at hb
  cases hb
 obtain⟨h1,h2,h3,h4,_⟩:=EC v.O h
 refine⟨?_,.inr (.inr (.inr h4)),by omega,by omega⟩
 cases hs:sk x with
 | true=>rfl
 | false=>rw[(UT hs).1] at h1;cases h1
theorem YZ {l:List JAA}(h :∀x∈l,sk x=true):C6 l 14=[]/\C6 l 15=[]/\l.filter sk=l:=by
 refine⟨?_,?_,List.filter_eq_self.2 h⟩
 ·unfold C6
  rw[List.filter_eq_nil_iff]
  intro x hx q
  have:=h x hx
  unfold sk at this
  simp only[X27,bne_iff_ne] at this
  exact this.1 (by simpa using q)
 unfold C6
 rw[List.filter_eq_nil_iff]
 intro x hx q
 have:=h x hx
 unfold sk at this
 simp only[X27,bne_iff_ne] at this
 exact this.2 (by simpa using q)
structure LstOK (u:JAG):Prop where
 d:Ip (Bj u)
 b :∀x∈Bj u,bC x
 e14:C6 (Bj u) 14=if 0<(An true u.Announce).length then [x14 u] else []
 e15:C6 (Bj u) 15=if 0<(An true u.Withdraw).length then [x15 u] else []
 f:(Bj u).filter sk=lst0 u
 m :∀x∈lst0 u,x∈Bj u
theorem Q5 {u:JAG}(h:WrU u):LstOK u:=by
 have g:=h.g
 have cw6:=Bm (six:=true) g.gw
 have ca6:=Bm (six:=true) g.ga
 have hw:=h.w;have hn:=h.n
 have h0:Ip (lst0 u)/\(∀x∈lst0 u,sk x=true/\bC x):=by
  unfold lst0
  by_cases ha:0<u.Announce.length
  ·rw[if_pos ha]
   obtain⟨v,_,hd⟩:=g.a ha
   exact⟨Uw v.O,fun x hx=>⟨(Iz v hx).1,(Iz v hx).2.1,(Iz v hx).2.2.1,(Iz v hx).2.2.2,by have:=hd x hx;omega⟩⟩
  rw[if_neg ha]
  exact⟨.nil,fun x hx=>by cases hx⟩
 obtain⟨d0,b0⟩:=h0
 obtain⟨a14,a15,af⟩:=YZ fun x hx=>(b0 x hx).1
 have hL:0<(An true u.Announce).length->(byB u.JAC.Next).length<=16:=by
  intro hc
  have ha:0<u.Announce.length:=by omega
  have:=(Gi (g.a ha).1.n).2
  have:=(w_L u.JAC.Next).2
  omega
 have h1:Ip (Hq u)/\(∀x∈Hq u,bC x)/\C6 (Hq u) 14=(if 0<(An true u.Announce).length then [x14 u] else [])/\C6 (Hq u) 15=[]/\(Hq u).filter sk=lst0 u/\∀x∈lst0 u,x∈Hq u:=by
  rw[UJ]
  by_cases hc:0<(An true u.Announce).length
  ·rw[if_pos hc,if_pos hc]
   refine⟨Vd d0 a14,fun x hx=>?_,J8 rfl a14,?_,?_,fun x hx=>D4.2 (.inl hx)⟩
   ·rcases D4.1 hx with hx | rfl
    ·exact (b0 x hx).2
    have:=hL hc
    refine⟨.inr (.inl rfl),show (0:Int)<=14 by decide,show (14:Int)<=255 by decide,?_⟩
    unfold x14
    simp only[X11,X12,X13]
    omega
   ·exact (Fo (x:=x14 u) rfl).trans a15
   exact (Fo (x:=x14 u) rfl).trans af
  rw[if_neg hc,if_neg hc]
  exact⟨d0,fun x hx=>(b0 x hx).2,a14,a15,af,fun x hx=>hx⟩
 obtain⟨d1,b1,c14,c15,cf,m1⟩:=h1
 by_cases hc:0<(An true u.Withdraw).length
 ·have e:=(QB u).trans (if_pos hc)
  refine⟨?_,fun x hx=>?_,?_,?_,?_,fun x hx=>?_⟩
  ·rw[e];exact Vd d1 c15
  ·rw[e] at hx
   rcases D4.1 hx with hx | rfl
   ·exact b1 x hx
   refine⟨.inr (.inl rfl),show (0:Int)<=15 by decide,show (15:Int)<=255 by decide,?_⟩
   unfold x15
   simp only[X11,X12,X13]
   omega
  ·rw[e];exact (Fo (x:=x15 u) rfl).trans c14
  ·rw[e,if_pos hc];exact J8 rfl c15
  ·rw[e];exact (Fo (x:=x15 u) rfl).trans cf
  rw[e];exact D4.2 (.inl (m1 x hx))
 have e:=(QB u).trans (if_neg hc)
 exact⟨by rw[e];exact d1,by rw[e];exact b1,by rw[e];exact c14,by rw[e,if_neg hc];exact c15,by rw[e];exact cf,by rw[e];exact m1⟩
theorem Zg {u:JAG}(h:WrU u) :∃n,F6 (Bj u)=some (n,u.Announce.filter fun p=>p.Addr.V6==true)/\(u.Announce.filter (fun p=>p.Addr.V6==true)≠[]->n=u.JAC.Next/\u.JAC.Next.V6=true):=by
 unfold F6
 rw[(Q5 h).e14]
 by_cases hc:0<(An true u.Announce).length
 ·have hf:=Tq.1 hc
  have ha:0<u.Announce.length:=by
   rcases Nat.eq_zero_or_pos u.Announce.length with q | q
   ·rw[List.eq_nil_of_length_eq_zero q] at hf
    exact absurd rfl hf
   exact q
  obtain⟨p,hp⟩:=List.exists_mem_of_ne_nil _ hf
  obtain⟨p1,p2⟩:=List.mem_filter.1 hp
  have h6:u.JAC.Next.V6=true:=by rw[<- h.s p p1];simpa using p2
  have v:=(h.g.a ha).1
  have hl:(byB u.JAC.Next).length=16:=by rw[(Gi v.n).2,eR h6];rfl
  rw[if_pos hc]
  refine⟨u.JAC.Next,?_,fun _=>⟨rfl,h6⟩⟩
  show FY (x14 u).Data=_
  have hD:(x14 u).Data=0::2::1::16::(byB u.JAC.Next++(0::An true u.Announce)):=by
   unfold x14
   simp only[List.cons_append,List.nil_append,List.append_assoc]
  have h20:(x14 u).Data.getD 20 0=0:=by
   rw[hD,List.getD_eq_getElem?_getD]
   show ((byB u.JAC.Next++(0::An true u.Announce))[16]?).getD 0=0
   rw[List.getElem?_append_right (by omega),hl]
   rfl
  have h21:(x14 u).Data.drop 21=An true u.Announce:=by
   rw[hD]
   show (byB u.JAC.Next++(0::An true u.Announce)).drop 17=_
   rw[List.drop_append,List.drop_of_length_le (by omega),hl,List.nil_append]
   rfl
  have h4:((x14 u).Data.drop 4).take 16=byB u.JAC.Next:=by
   rw[hD]
   show (byB u.JAC.Next++(0::An true u.Announce)).take 16=_
   rw[List.take_append_of_le_length (by omega),List.take_of_length_le (by omega)]
  unfold FY
  rw[if_pos ⟨by rw[hD];rfl,by rw[hD];simp only[X12,X11];omega,by rw[hD];rfl,h20⟩,h21,h4,Qh v.n,H9 h.g.ga,List.nil_append]
  rfl
 rw[if_neg hc]
 have hf:u.Announce.filter (fun p=>p.Addr.V6==true)=[]:=by
  apply LV.1
  exact List.eq_nil_of_length_eq_zero (by omega)
 refine⟨zAd,?_,fun q=>absurd hf q⟩
 rw[hf]
theorem W3 {u:JAG}(h:WrU u):Dl (Bj u)=some (u.Withdraw.filter fun p=>p.Addr.V6==true):=by
 unfold Dl
 rw[(Q5 h).e15]
 by_cases hc:0<(An true u.Withdraw).length
 ·rw[if_pos hc]
  show E0 (x15 u).Data=_
  unfold E0
  rw[if_pos (show isP (x15 u).Data=true from rfl)]
  show IL true (An true u.Withdraw) []=_
  rw[H9 h.g.gw,List.nil_append]
 rw[if_neg hc]
 have hf:u.Withdraw.filter (fun p=>p.Addr.V6==true)=[]:=by
  apply LV.1
  exact List.eq_nil_of_length_eq_zero (by omega)
 rw[hf]
theorem aT {l:List JAA}(h:(CG l).2=0):(CG l).1=Ci l/\(Ci l).length<=2048:=by
 unfold CG at h ⊢
 split at h
 ·rename_i hc
  rw[if_pos hc]
  split at h
  ·cases h
  rename_i hl
  rw[if_neg hl]
  exact⟨rfl,by omega⟩
 cases h
theorem Y3 {u:JAG}(h:WrU u)(hj:(CG (Bj u)).2=0)(hr:(rdS (Bj u)).2=0) :∃n,K9 (Hk u (CG (Bj u)).1)=some ⟨Bj u,n,u.Withdraw.filter (fun p=>p.Addr.V6==false),u.Withdraw.filter (fun p=>p.Addr.V6==true),u.Announce.filter (fun p=>p.Addr.V6==false),u.Announce.filter (fun p=>p.Addr.V6==true)⟩/\
  (u.Announce.filter (fun p=>p.Addr.V6==true)≠[]->n=u.JAC.Next/\u.JAC.Next.V6=true):=by
 obtain⟨n,hR,hn⟩:=Zg h
 have hU:=W3 h
 obtain⟨j1,j2⟩:=aT hj
 have cw4:=Bm (six:=false) h.g.gw
 have hw:=h.w
 refine⟨n,?_,hn⟩
 have e1:IX (Hk u (CG (Bj u)).1)=some (An false u.Withdraw,two (Ci (Bj u)).length++Ci (Bj u)++An false u.Announce):=by
  have:=Vi (w:=An false u.Withdraw) (r:=two (Ci (Bj u)).length++Ci (Bj u)++An false u.Announce) (by omega)
  rw[<- this,j1]
  unfold Hk
  simp only[List.append_assoc]
 have e2:IX (two (Ci (Bj u)).length++Ci (Bj u)++An false u.Announce)=some (Ci (Bj u),An false u.Announce):=Vi (by omega)
 unfold K9
 rw[e1]
 dsimp only
 rw[e2]
 dsimp only
 rw[Qr _ _ (Q5 h).b,List.nil_append,MF,hR,hU,H9 h.g.gw,H9 h.g.ga,List.nil_append,List.nil_append,MA]
 have fw:=MR u.Withdraw
 have fa:=MR u.Announce
 have hnn:=h.n
 have hex:¬ (0<(u.Announce.filter (fun p=>p.Addr.V6==false)).length/\0<(u.Announce.filter (fun p=>p.Addr.V6==true)).length):=by
  rintro⟨q1,q2⟩
  obtain⟨p1,hp1⟩:=List.exists_mem_of_ne_nil _ (List.length_pos_iff.1 q1)
  obtain⟨p2,hp2⟩:=List.exists_mem_of_ne_nil _ (List.length_pos_iff.1 q2)
  obtain⟨a1,a2⟩:=List.mem_filter.1 hp1
  obtain⟨b1,b2⟩:=List.mem_filter.1 hp2
  have s1:=h.s _ a1
  have s2:=h.s _ b1
  rw[beq_iff_eq] at a2 b2
  rw[a2] at s1
  rw[b2,<- s1] at s2
  cases s2
 have hok:okN (u.Withdraw.filter (fun p=>p.Addr.V6==false)) (u.Withdraw.filter (fun p=>p.Addr.V6==true)) (u.Announce.filter (fun p=>p.Addr.V6==false)) (u.Announce.filter (fun p=>p.Addr.V6==true))=true:=by
  unfold okN
  rw[decide_eq_true (p:=(u.Withdraw.filter (fun p=>p.Addr.V6==false)).length+(u.Withdraw.filter (fun p=>p.Addr.V6==true)).length<=256) (by omega),decide_eq_true (p:=(u.Announce.filter (fun p=>p.Addr.V6==false)).length+(u.Announce.filter (fun p=>p.Addr.V6==true)).length<=256) (by omega)]
  simp only[Bool.and_true,Bool.not_eq_true',Bool.and_eq_false_iff,decide_eq_false_iff_not]
  rcases Nat.eq_zero_or_pos (u.Announce.filter (fun p=>p.Addr.V6==false)).length with q | q
  ·exact .inl (by omega)
  exact .inr fun q2=>hex ⟨q,q2⟩
 rw[if_pos ⟨hok,by rw[hr];decide⟩]
theorem cS:rdS []=(eA,0):=rfl
theorem eW {u:JAG}(h:WrU u):rdS (Bj u)=if 0<u.Announce.length then (Uc u.JAC,0) else (eA,0):=by
 have k:=Q5 h
 rw[<- di k.d,k.f]
 unfold lst0
 by_cases ha:0<u.Announce.length
 ·rw[if_pos ha,if_pos ha,bg (h.g.a ha).1 (List.Perm.refl _)]
 rw[if_neg ha,if_neg ha,cS]
theorem filter_all {l:List JAE}{b:Bool}(h :∀p∈l,p.Addr.V6=b):(l.filter fun p=>p.Addr.V6==false)++(l.filter fun p=>p.Addr.V6==true)=l:=by
 cases b with
 | false=>
  rw[List.filter_eq_self.2 (fun p hp=>by rw[h p hp];rfl),List.filter_eq_nil_iff.2 (fun p hp=>by rw[h p hp];decide),List.append_nil]
 | true=>
  rw[List.filter_eq_nil_iff.2 (fun p hp=>by rw[h p hp];decide),List.filter_eq_self.2 (fun p hp=>by rw[h p hp];rfl),List.nil_append]
theorem cR {u:JAG}(h:WrU u)(hj:(CG (Bj u)).2=0) :
  cG (Hk u (CG (Bj u)).1)=(⟨(u.Withdraw.filter fun p=>p.Addr.V6==false)++(u.Withdraw.filter fun p=>p.Addr.V6==true),if u.Announce=[] then eA else u.JAC,u.Announce⟩,0):=by
 have hrd:=eW h
 have hr0:(rdS (Bj u)).2=0:=by rw[hrd];split<;>rfl
 obtain⟨n,hP,hn⟩:=Y3 h hj hr0
 have hall:=filter_all h.s
 unfold cG
 rw[hP]
 dsimp only
 rw[hall]
 by_cases h0:u.Announce=[]
 ·rw[if_pos h0,if_pos h0,h0]
 rw[if_neg h0,if_neg h0]
 have ha:0<u.Announce.length:=List.length_pos_iff.2 h0
 obtain⟨v,_,_⟩:=h.g.a ha
 obtain⟨o1,o2⟩:=h.o h0
 rw[if_pos ha] at hrd
 have k:=Q5 h
 have hT :∀t,Da (wrS u.JAC) t=true->Da (Bj u) t=true:=by
  intro t ht
  obtain⟨y,hy,e⟩:=II.1 ht
  refine II.2 ⟨y,k.m y ?_,e⟩
  unfold lst0
  rw[if_pos ha]
  exact hy
 have t1:Da (Bj u) 1=true:=hT 1 (by
  rw[U1 v (by decide)]
  have:G u.JAC 1=if u.JAC.Origin≠-1 then some [Aa u.JAC.Origin] else none:=rfl
  rw[this,if_pos o1];rfl)
 have t2:Da (Bj u) 2=true:=hT 2 (by
  rw[U1 v (by decide)]
  have:G u.JAC 2=if u.JAC.Origin≠-1\/u.JAC.Path≠[] then some (Ft u.JAC.Path) else none:=rfl
  rw[this,if_pos (.inl o1)];rfl)
 have hfl:(Bj u).any flg=false:=by
  rw[YK,k.e14,k.e15]
  have f14:(bt (x14 u).Flags 192 != 128)=false:=by show (bt 128 192 != 128)=false;decide
  have f15:(bt (x15 u).Flags 192 != 128)=false:=by show (bt 128 192 != 128)=false;decide
  by_cases c1:0 < (An true u.Announce).length<;>by_cases c2:0 < (An true u.Withdraw).length<;>simp only[c1,c2,if_true,if_false,List.any_cons,List.any_nil,f14,f15,Bool.or_false]
 have hlt:Yp ⟨Bj u,n,u.Withdraw.filter (fun p=>p.Addr.V6==false),u.Withdraw.filter (fun p=>p.Addr.V6==true),u.Announce.filter (fun p=>p.Addr.V6==false),u.Announce.filter (fun p=>p.Addr.V6==true)⟩=false:=by
  unfold Yp
  dsimp only
  rw[hr0,hfl,t1,t2,hrd]
  have e0:decide ((0:Int)≠0)=false:=by decide
  rw[e0]
  simp only[Bool.not_true,Bool.false_or]
  by_cases h4:0<(u.Announce.filter (fun p=>p.Addr.V6==false)).length
  ·obtain⟨p,hp⟩:=List.exists_mem_of_ne_nil _ (List.length_pos_iff.1 h4)
   obtain⟨p1,p2⟩:=List.mem_filter.1 hp
   have h6:u.JAC.Next.V6=false:=by rw[<- h.s p p1];simpa using p2
   have hne:(Uc u.JAC).Next=u.JAC.Next:=by
    unfold Uc
    dsimp only
    rw[h6,if_neg (by decide)]
   rw[hne]
   have:Addr.eqd u.JAC.Next zAd=false:=by
    cases hq:Addr.eqd u.JAC.Next zAd with
    | false=>rfl
    | true=>exact absurd ((Addr.eqd_iff _ _).1 hq) o2
   rw[this,Bool.and_false]
  rw[decide_eq_false h4,Bool.false_and]
 rw[hlt,if_neg (by decide),hrd]
 dsimp only
 have hAt:(if 0<(u.Announce.filter fun p=>p.Addr.V6==true).length then { Uc u.JAC with Next:=n } else Uc u.JAC)=u.JAC:=by
  by_cases h6:0<(u.Announce.filter fun p=>p.Addr.V6==true).length
  ·rw[if_pos h6,(hn (List.length_pos_iff.1 h6)).1]
   unfold Uc
   rfl
  rw[if_neg h6]
  have hv:u.JAC.Next.V6=false:=by
   cases hq:u.JAC.Next.V6 with
   | false=>rfl
   | true=>
    refine absurd ?_ h6
    have:u.Announce.filter (fun p:JAE=>p.Addr.V6==true)=u.Announce:=List.filter_eq_self.2 fun p hp=>by rw[h.s p hp,hq];rfl
    rw[this]
    exact ha
  unfold Uc
  rw[hv,if_neg (by decide)]
 rw[hAt]
def Hg (p:JAE):Bool:=(Dz p).getD false
theorem JB (p:JAE):Dz p=some (Hg p)/\(Hg p=true↔DU p):=by
 obtain⟨b,h1,h2⟩:=QJ p
 unfold Hg
 rw[h1]
 exact⟨rfl,h2⟩
def isE (a:JAC):Bool:=(DJ a eA).getD false
theorem Xd (a:JAC):DJ a eA=some (isE a):=by
 obtain⟨b,h⟩:=(inferInstance:Tt (DJ a eA)).h
 unfold isE
 rw[h];rfl
def Qf (a:JAC)(p:JAE):Bool:=(p.Addr.V6==a.Next.V6)&&((a.Origin != -1)&&(!(Addr.eqd a.Next zAd)&&Gp a))
def XM (u:JAG):Bool:=((Do u).2==0)&&decide ((Do u).1.length<=4077)
def FX (u:JAG):Bool:=decide (u.Withdraw.length<=256)&&(decide (u.Announce.length<=256)&&((u.Withdraw++u.Announce).all Hg&&((!(decide (u.Announce=[])) || isE u.JAC)&&(u.Announce.all (Qf u.JAC)&&XM u))))
theorem VZ {u:JAG}(hs:SmT u.JAC)(hw:u.Withdraw.length<=1000)(hn:u.Announce.length<=1000)(hW :∀{a:JAC},VA a->(wrS a).length<=16):HE u=some (FX u):=by
 unfold HE FX
 rw[AH]
 by_cases h1:u.Withdraw.length<=256
 case neg=>
  rw[if_pos (by simp only[decide_eq_true_eq];omega),decide_eq_false h1]
  rfl
 rw[if_neg (by simp only[decide_eq_true_eq];omega),decide_eq_true h1]
 dsimp only
 by_cases h2:u.Announce.length<=256
 case neg=>
  rw[decide_eq_false h2,if_pos (by simp only[cond_false,decide_eq_true_eq];omega)]
  rfl
 rw[decide_eq_true h2,if_neg (by simp only[cond_false,decide_eq_true_eq];omega),AO (by decide) (by simp only[X13];omega),AC,AO (by decide) (by omega),AC,AH]
 refine (Z2 (g:=Hg) (r0:=some false) fun next p i _=>by
  rw[(JB p).1,AC]
  cases Hg p<;>rfl).trans ?_
 cases hg:(u.Withdraw++u.Announce).all Hg with
 | false=>rfl
 | true=>
  have hgood :∀p∈u.Withdraw++u.Announce,DU p:=fun p hp=>(JB p).2.1 (List.all_eq_true.1 hg p hp)
  simp only[cond_true,Bool.true_and]
  rw[AH]
  have hE:ES=some eA:=rfl
  by_cases h0:u.Announce=[]
  ·rw[if_pos ((cN _).2 h0),hE,AC,Xd,AC,decide_eq_true h0]
   cases he:isE u.JAC with
   | false=>rfl
   | true=>
    simp only[Bool.not_true,cond_true,Bool.false_or,Bool.true_and]
    rw[if_neg (by decide),AH,h0]
    show Option.bind (GO u) _=_
    have g:GoodU u:=⟨by omega,by omega,fun p hp=>hgood p (List.mem_append_left _ hp),(fun p hp=>by rw[h0] at hp;cases hp),fun q=>by rw[h0] at q;cases q⟩
    rw[Tc g,AC]
    unfold XM
    rw[AH]
    have e:decide (((Do u).1.length:Int)<=4077)=decide ((Do u).1.length<=4077):=by rw[decide_eq_decide];omega
    rw[e]
    cases ((Do u).2==0)<;>cases decide ((Do u).1.length<=4077)<;>rfl
  rw[if_neg (fun q=>h0 ((cN _).1 q)),decide_eq_false h0]
  simp only[Bool.not_false,Bool.true_or,Bool.true_and]
  rw[if_neg (by decide),AH]
  refine (Z2 (g:=Qf u.JAC) (r0:=some false) fun next p i _=>by
   rw[AH,S8 hs,AC]
   unfold Qf
   have ez:Addr.eqd u.JAC.Next (⟨false,(0:UInt64),(0:UInt64)⟩:Addr)=Addr.eqd u.JAC.Next zAd:=rfl
   have eo:(u.JAC.Origin==(-1))=!(u.JAC.Origin != -1):=(Bool.not_not _).symm
   rw[ez,eo]
   cases (p.Addr.V6==u.JAC.Next.V6)<;>cases (u.JAC.Origin != -1)<;>cases Addr.eqd u.JAC.Next zAd<;>cases Gp u.JAC<;>rfl).trans ?_
  cases hf:u.Announce.all (Qf u.JAC) with
  | false=>rfl
  | true=>
   simp only[cond_true,Bool.true_and]
   have hv:VA u.JAC:=by
    obtain⟨p,hp⟩:=List.exists_mem_of_ne_nil _ h0
    have:=List.all_eq_true.1 hf p hp
    unfold Qf at this
    simp only[X27] at this
    exact O0.1 this.2.2.2
   have g:GoodU u:=⟨by omega,by omega,fun p hp=>hgood p (List.mem_append_left _ hp),fun p hp=>hgood p (List.mem_append_right _ hp),fun _=>⟨hv,hW hv,fun x hx=>Uk hv hx⟩⟩
   rw[Tc g,AC]
   unfold XM
   rw[AH]
   have e:decide (((Do u).1.length:Int)<=4077)=decide ((Do u).1.length<=4077):=by rw[decide_eq_decide];omega
   rw[e]
   cases ((Do u).2==0)<;>cases decide ((Do u).1.length<=4077)<;>rfl
theorem Ys {u:JAG}(h:FX u=true)(hW :∀{a:JAC},VA a->(wrS a).length<=16):WrU u/\XM u=true/\(u.Announce=[]->isE u.JAC=true):=by
 unfold FX at h
 simp only[X27,decide_eq_true_eq] at h
 obtain⟨h1,h2,h3,h4,h5,h6⟩:=h
 have hgood :∀p∈u.Withdraw++u.Announce,DU p:=fun p hp=>(JB p).2.1 (List.all_eq_true.1 h3 p hp)
 have hfit :∀p∈u.Announce,p.Addr.V6=u.JAC.Next.V6/\u.JAC.Origin≠-1/\u.JAC.Next≠zAd/\VA u.JAC:=fun p hp=>by
  have:=List.all_eq_true.1 h5 p hp
  unfold Qf at this
  simp only[X27,beq_iff_eq,bne_iff_ne,Bool.not_eq_true'] at this
  obtain⟨a1,a2,a3,a4⟩:=this
  exact⟨a1,a2,(fun q=>by rw[q,(Addr.eqd_iff _ _).2 rfl] at a3;cases a3),O0.1 a4⟩
 refine⟨⟨⟨by omega,by omega,fun p hp=>hgood p (List.mem_append_left _ hp),fun p hp=>hgood p (List.mem_append_right _ hp),fun q=>?_⟩,h1,h2,fun p hp=>(hfit p hp).1,fun q=>?_⟩,h6,fun q=>?_⟩
 ·obtain⟨p,hp⟩:=List.exists_mem_of_ne_nil _ (List.length_pos_iff.1 q)
  have v:=(hfit p hp).2.2.2
  exact⟨v,hW v,fun x hx=>Uk v hx⟩
 ·obtain⟨p,hp⟩:=List.exists_mem_of_ne_nil _ q
  exact⟨(hfit p hp).2.1,(hfit p hp).2.2.1⟩
 rw[decide_eq_true q] at h4
 simpa using h4
def encS (u:JAG):List UInt8×Int:=if FX u=true then Do u else ([],1)
def x1 (o:UInt8):JAA:=⟨64,1,[o]⟩
theorem QN {l:List JAA}{x:JAA}(h:l.Pairwise fun a b=>ltT a b=true)(hx:C6 l x.Type_=[]):(Ff ltT l x).Pairwise fun a b=>ltT a b=true:=by
 have hne :∀y∈l,y.Type_≠x.Type_:=by
  unfold C6 at hx
  rw[List.filter_eq_nil_iff] at hx
  exact fun y hy e=>hx y hy (by rw[beq_iff_eq];exact e)
 have h0:=h
 rw[<- List.takeWhile_append_dropWhile (p:=(ltT · x)) (l:=l),List.pairwise_append] at h
 obtain⟨h1,h2,h3⟩:=h
 have hd :∀b∈l.dropWhile (ltT · x),ltT x b=true:=by
  cases hl:l.dropWhile (ltT · x) with
  | nil=>intro b hb;simp at hb
  | cons y t=>
   have hy:ltT y x=false:=by
    have:=List.head?_dropWhile_not (ltT · x) l
    rw[hl] at this
    simpa using this
   have hyl:y∈l:=by
    have:y∈l.dropWhile (ltT · x):=by rw[hl];simp
    exact List.dropWhile_subset _ this
   have hxy:ltT x y=true:=by
    have:=hne y hyl
    unfold ltT at hy ⊢
    rw[decide_eq_false_iff_not] at hy
    exact decide_eq_true (by omega)
   rw[hl] at h2
   intro b hb
   rcases List.mem_cons.1 hb with rfl | hb
   ·exact hxy
   exact Ws _ _ _ hxy ((List.pairwise_cons.1 h2).1 b hb)
 unfold Ff
 rw[List.pairwise_append]
 refine⟨h1,List.pairwise_cons.2 ⟨hd,h2⟩,fun a ha b hb=>?_⟩
 rcases List.mem_cons.1 hb with e | hb
 ·rw[e];exact Ig (ltT · x) ha
 exact h3 a ha b hb
def raw (u:JAG):List JAA:=lst0 u++((if 0<(An true u.Announce).length then [x14 u] else [])++if 0<(An true u.Withdraw).length then [x15 u] else [])
theorem VW {u:JAG}(h:WrU u):(Bj u).Pairwise (fun a b=>ltT a b=true)/\∀x,x∈Bj u↔x∈raw u:=by
 have h0:(lst0 u).Pairwise (fun a b=>ltT a b=true)/\C6 (lst0 u) 14=[]/\C6 (lst0 u) 15=[]:=by
  unfold lst0
  by_cases ha:0<u.Announce.length
  ·rw[if_pos ha]
   obtain⟨v,_,_⟩:=h.g.a ha
   obtain⟨a14,a15,_⟩:=YZ fun x hx=>(Iz v hx).1
   exact⟨(OT v.O).imp fun {p q} h=>by rw[Vh] at h;exact h,a14,a15⟩
  rw[if_neg ha]
  exact⟨.nil,rfl,rfl⟩
 obtain⟨s0,a14,a15⟩:=h0
 have h1:(Hq u).Pairwise (fun a b=>ltT a b=true)/\C6 (Hq u) 15=[]/\∀x,x∈Hq u↔x∈lst0 u\/x∈(if 0<(An true u.Announce).length then [x14 u] else []):=by
  rw[UJ]
  by_cases hc:0<(An true u.Announce).length
  ·rw[if_pos hc,if_pos hc]
   exact⟨QN s0 a14,(Fo (x:=x14 u) rfl).trans a15,fun x=>by rw[D4,X14]⟩
  rw[if_neg hc,if_neg hc]
  exact⟨s0,a15,fun x=>by simp⟩
 obtain⟨s1,b15,m1⟩:=h1
 rw[QB]
 unfold raw
 by_cases hc:0<(An true u.Withdraw).length
 ·rw[if_pos hc,if_pos hc]
  refine⟨QN s1 b15,fun x=>?_⟩
  rw[D4,m1,X23,X23,X14,or_assoc]
 rw[if_neg hc,if_neg hc]
 refine⟨s1,fun x=>?_⟩
 rw[m1,List.append_nil,X23]
theorem aQ {u:JAG}(h:WrU u){cmp:JAA->JAA->Option Int}(hc :∀a b,cmp a b=some (Fb (HZ a) (HZ b)))(hl:(raw u).length<=1000000)(hd:Ip (raw u)):EO cmp (raw u)=some (Bj u):=by
 obtain⟨s,m⟩:=VW h
 obtain⟨r,h1,h2,h3⟩:=ND Fh hc (l:=raw u) (by omega)
 rw[h1]
 congr 1
 refine QH Fh (OU Fh h3 ?_) (s.imp fun {a b} q=>by rw[Vh];exact q) fun x=>?_
 ·exact ((h2.pairwise_iff fun h e=>h e.symm).2 hd).imp fun {a b} q e=>q (by simpa[HZ] using e)
 rw[h2.mem_iff,m]
theorem aF {u:JAG}(h:WrU u):Ip (raw u):=by
 have h0:Ip (lst0 u)/\∀x∈lst0 u,sk x=true:=by
  unfold lst0
  by_cases ha:0<u.Announce.length
  ·rw[if_pos ha]
   obtain⟨v,_,_⟩:=h.g.a ha
   exact⟨Uw v.O,fun x hx=>(Iz v hx).1⟩
  rw[if_neg ha]
  exact⟨.nil,fun x hx=>by cases hx⟩
 obtain⟨d0,k0⟩:=h0
 have hk :∀x∈lst0 u,x.Type_≠14/\x.Type_≠15:=fun x hx=>by
  have:=k0 x hx
  unfold sk at this
  simpa using this
 unfold raw Ip
 rw[List.pairwise_append]
 refine⟨d0,?_,fun a ha b hb=>?_⟩
 ·split<;>split<;>simp[x14,x15]
 have k:=hk a ha
 rcases X23.1 hb with hb | hb
 ·split at hb
  ·rw[X14] at hb
   subst hb
   exact k.1
  cases hb
 split at hb
 ·rw[X14] at hb
  subst hb
  exact k.2
 cases hb
end Go.AX.Q19
end
