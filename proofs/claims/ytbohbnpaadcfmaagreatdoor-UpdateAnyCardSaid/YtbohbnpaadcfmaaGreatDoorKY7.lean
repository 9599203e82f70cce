/-
  Texts of one proof, packed.
-/
import Derived.Test.YtbohbnpaadcfmaaGreatDoorKY6
set_option linter.all false
set_option maxRecDepth 100000
set_option maxHeartbeats 4000000
open List renaming length_append→X11,length_cons→X12,length_nil→X13,mem_singleton→X14,getElem?_eq_some_iff→X16,length_drop→X17,length_take→X18,mem_cons_of_mem→X19,length_replicate→X20,length_set→X21,length_singleton→X22,mem_append→X23
open Option.some renaming injEq→X24,inj→X25
open Prod.mk renaming injEq→X26
open Bool renaming and_eq_true→X27,eq_iff_iff→X28
open Nat renaming mul_le_mul_right→X31,add_mul→X32
section
namespace Go.AX.Q19
open Go Go.AX
theorem IA {v n:Int}(hn:1<=n/\n<=4611686018427387904):Ok (Hl v n) fun r=>0<=r/\r<n:=by
 unfold Hl
 have h1:=Int.tmod_lt_of_pos v (show 0<n by omega)
 have h2:-n<Int.tmod v n:=by
  have:=Int.lt_tmod_of_pos v (show 0<n by omega)
  exact this
 refine .bind (.chk (by omega)) fun _ _=>.join (fun r=>0<=r/\r<n) (fun k hk=>.ite (fun hc=>hk _ ?_) fun hc=>hk _ ?_) fun r hr=>.ret hr
 ·simp only[decide_eq_true_eq] at hc
  rw[AO (by omega)]
  omega
 simp only[decide_eq_true_eq] at hc
 omega
theorem AL {d:JAI}{n:Int}(hd:Dk d)(hn:1<=n/\n<=4611686018427387904):Ok (AM d n) fun r=>0<=r.1/\r.1<n/\Dk r.2:=by
 obtain⟨h1,h2⟩:=hd
 unfold AM
 refine .ite (fun _=>.ret ⟨by simp,by simp;omega,h1,h2⟩) fun h=>?_
 simp only[decide_eq_true_eq] at h
 have e:AN (AN (d.At+1)-1)=d.At:=by rw[AO (x:=d.At+1) (by omega),AO (by omega)];omega
 rw[e,AO (x:=d.At+1) (by omega)]
 refine .bind (.geti (by omega)) fun v _=>.bind (IA hn) fun r hr=>.ret ⟨hr.1,hr.2,by simp only;omega,h2⟩
theorem OR {d:JAI}{n:Int}(hd:Dk d)(hn:0<=n/\n<=1000):Ok (EW d n) fun r=>(r.1.length:Int)<=n/\Dk r.2:=by
 unfold EW
 rw[AO (by omega)]
 refine .bind (AL hd (by omega)) ?_
 rintro⟨v,d⟩ ⟨v1,v2,hd⟩
 dsimp only at v1 v2 hd ⊢
 refine .join (fun p:JAI×List UInt8=>Dk p.1/\(p.2.length:Int)<=n) (fun k hk=>?_) fun p hp=>.ret ⟨hp.2,hp.1⟩
 refine .whileI (fun s:Int×JAI×List UInt8=>0<=s.1/\s.1+s.2.2.length<=n/\Dk s.2.1) (fun s=>s.1.toNat) ⟨v1,by simp only[X13];omega,hd⟩ (BY (by simp only;omega)) ?_
 rintro next ⟨c,d,l⟩ ⟨h1,h2,h3⟩ hnx
 dsimp only at h1 h2 h3 ⊢
 refine .ite (fun h=>?_) fun h=>hk (d,l) ⟨h3,by dsimp only;omega⟩
 simp only[decide_eq_true_eq] at h
 refine .bind (AL h3 (by omega)) ?_
 rintro⟨w,d⟩ ⟨w1,w2,hd⟩
 dsimp only at w1 w2 hd ⊢
 refine .bind (Ok.apnd (by decide) (by simp;omega)) fun l2 hl2=>?_
 rw[AO (by omega)]
 exact hnx _ ⟨by dsimp only;omega,by rw[hl2];simp only[X11,X22];omega,hd⟩ (by dsimp only;omega)
theorem Qb {d:JAI}(hd:Dk d):Ok (FX d) fun r=>Dk r.2:=by
 unfold FX
 refine .bind (AL hd (by omega)) ?_
 rintro⟨v,d⟩ ⟨v1,v2,hd⟩
 refine .bind (AL hd (by omega)) ?_
 rintro⟨w,d⟩ ⟨w1,w2,hd⟩
 refine .bind (AL hd (by omega)) ?_
 rintro⟨u,d⟩ ⟨u1,u2,hd⟩
 exact .bind (.geti (by simp only[X12,X13];omega)) fun x _=>.ret hd
theorem Pj {d:JAI}(hd:Dk d):Ok (E9 d) fun r=>(r.1.length<=3/\tot r.1<=12/\GX r.1=true)/\Dk r.2:=by
 unfold E9
 refine .bind (AL hd (by omega)) ?_
 rintro⟨v,d⟩ ⟨v1,v2,hd⟩
 dsimp only at v1 v2 hd ⊢
 refine .join (fun p:JAI×List JAC=>(p.2.length<=3/\tot p.2<=12/\GX p.2=true)/\Dk p.1) (fun k hk=>?_) fun p hp=>.ret hp
 refine .whileI (fun s:Int×JAI×List JAC=>(0<=s.1/\s.1+s.2.2.length<=3/\4*s.1+tot s.2.2<=12/\GX s.2.2=true)/\Dk s.2.1) (fun s=>s.1.toNat) ⟨⟨v1,by simp only[X13];omega,by simp only[tot,List.foldl_nil];omega,rfl⟩,hd⟩ (BY (by simp only;omega)) ?_
 rintro next ⟨c,d,p⟩ ⟨⟨h1,h2,h3,h4⟩,hd⟩ hnx
 dsimp only at h1 h2 h3 h4 hd ⊢
 refine .ite (fun h=>?_) fun h=>hk (d,p) ⟨⟨by dsimp only;omega,by dsimp only;omega,h4⟩,hd⟩
 simp only[decide_eq_true_eq] at h
 refine .join (fun q:JAI×List JAC=>(q.2.length<=p.length+1/\tot q.2<=tot p+4/\GX q.2=true)/\Dk q.1) (fun k8 hk8=>?_) ?_
 rotate_left
 ·rintro⟨d,q⟩ ⟨⟨q1,q2,q3⟩,hd⟩
  dsimp only at q1 q2 q3 hd ⊢
  rw[AO (by omega)]
  exact hnx _ ⟨⟨by dsimp only;omega,by dsimp only;omega,by dsimp only;omega,q3⟩,hd⟩ (by dsimp only;omega)
 refine .join (fun q:Bool×JAI=>Dk q.2) (fun k9 hk9=>?_) ?_
 ·refine .ite (fun hl=>?_) fun _=>.bind (AL hd (by omega)) fun r hr=>hk9 _ hr.2.2
  simp only[decide_eq_true_eq] at hl
  rw[AO (by omega)]
  exact .bind (.geti (by omega)) fun s _=>.ite (fun _=>hk9 _ hd) fun _=>.bind (AL hd (by omega)) fun r hr=>hk9 _ hr.2.2
 rintro⟨set,d⟩ hd
 dsimp only at hd ⊢
 refine .bind (AL hd (by omega)) ?_
 rintro⟨n,d⟩ ⟨n1,n2,hd⟩
 dsimp only at n1 n2 hd ⊢
 rw[AO (x:=1+n) (by omega)]
 refine .join (fun q:JAI×List Int=>q.2.length<=4/\Dk q.1) (fun k19 hk19=>?_) ?_
 ·refine .whileI (fun s:Int×JAI×List Int=>(0<=s.1/\s.1+s.2.2.length<=4)/\Dk s.2.1) (fun s=>s.1.toNat) ⟨⟨by dsimp only;omega,by simp only[X13];omega⟩,hd⟩ (BY (by simp only;omega)) ?_
  rintro next ⟨m,d,l⟩ ⟨⟨m1,m2⟩,hd⟩ hnx
  dsimp only at m1 m2 hd ⊢
  refine .ite (fun hm=>?_) fun _=>hk19 (d,l) ⟨by dsimp only;omega,hd⟩
  simp only[decide_eq_true_eq] at hm
  refine .join (fun q:JAI×List Int=>q.2.length<=l.length+1/\Dk q.1) (fun k24 hk24=>?_) ?_
  ·refine .bind (Qb hd) ?_
   rintro⟨x,d⟩ hd
   dsimp only at hd ⊢
   refine .ite (fun _=>.bind (Ok.apnd (by decide) (by simp;omega)) fun r hr=>hk24 (d,r) ⟨by rw[hr];simp,hd⟩) fun _=>?_
   refine Ok.pos (n:=l.length) (by omega) (fun k' w w1 w2 hk'=>.ite (fun hw=>?_) fun _=>hk' _ (by simp)) fun w w1 w2=>?_
   ·simp only[decide_eq_true_eq] at hw
    exact .bind (.geti (by omega)) fun y _=>hk' _ fun _=>hw
   refine .join (fun _=>True) (fun k35 hk35=>.ite (fun _=>hk35 _ trivial) fun hw=>.bind (.geti ?_) fun y _=>hk35 _ trivial) fun b _=>?_
   ·simp only[beq_iff_eq] at hw
    omega
   refine .join (fun q:List Int=>q.length<=l.length+1) (fun k38 hk38=>.ite (fun _=>?_) fun _=>hk38 _ (by omega)) fun q hq=>hk24 (d,q) ⟨hq,hd⟩
   refine .bind (Ok.chk (by omega)) fun _ _=>.bind (Ok.apnd (by decide) (by simp;omega)) fun _ _=>.bind (Ok.apnd (by decide) (by simp;omega)) fun a ha=>.bind (Ok.chk (by omega)) fun _ _=>.bind (Ok.apnd (by decide) (by rw[ha];simp;omega)) fun b hb=>hk38 _ ?_
   rw[hb,ha]
   simp only[X11,X18,X17,X22]
   omega
  rintro⟨d,q⟩ ⟨q1,hd⟩
  dsimp only at q1 hd ⊢
  rw[AO (by omega)]
  exact hnx _ ⟨⟨by dsimp only;omega,by dsimp only;omega⟩,hd⟩ (by dsimp only;omega)
 rintro⟨d,l⟩ ⟨l1,hd⟩
 dsimp only at l1 hd ⊢
 refine .bind (Ok.apnd (by decide) (by simp;omega)) fun p2 hp2=>?_
 have ht:tot p2=tot p+l.length:=by rw[hp2,Nj,EX];simp[tot]
 have hl2:p2.length=p.length+1:=by rw[hp2];simp
 rw[ID (by omega) (by omega),AC]
 refine .join (fun q:List JAC=>q.length<=p.length+1/\tot q<=tot p+4/\GX q=true) (fun k48 hk48=>.ite (fun _=>?_) fun hv=>hk48 p2 ⟨by omega,by omega,by simpa using hv⟩) fun q hq=>hk8 (d,q) ⟨hq,hd⟩
 rw[AO (by omega)]
 refine .bind (Ok.part (by omega)) fun q hq=>hk48 q ?_
 have e:q=p:=by
  rw[hq.1,hp2]
  have:(((p++[(⟨set,l⟩:JAC)]).length:Int)-1).toNat=p.length:=by simp
  rw[this]
  simp
 rw[e]
 exact⟨by omega,by omega,h4⟩
theorem WZ {l:List JAB}{c:JAB}(hv:Ee l=true)(hc:okC c=true)(hl:l.length<64):Ee (if l.any (fun y=>JAB.eqd y c)=true then l else Gj Jq l c)=true/\(if l.any (fun y=>JAB.eqd y c)=true then l else Gj Jq l c).length<=l.length+1:=by
 split
 ·exact⟨hv,by omega⟩
 rename_i h
 obtain⟨h1,h2,h3⟩:=Fq.1 hv
 have hx:c∉l:=fun q=>h (List.any_eq_true.2 ⟨c,q,(Zm _ _).2 rfl⟩)
 rw[Fq,HB]
 refine⟨⟨fun y hy=>?_,IY NW NT h2 hx,by omega⟩,by omega⟩
 rcases Fb.1 hy with hy | rfl
 ·exact h1 y hy
 exact hc
theorem XU {l:List JAF}{c:JAF}(hv:Ef l=true)(hc:okL c=true)(hl:l.length<64):Ef (if l.any (fun y=>JAF.eqd y c)=true then l else Gj Jm l c)=true/\(if l.any (fun y=>JAF.eqd y c)=true then l else Gj Jm l c).length<=l.length+1:=by
 split
 ·exact⟨hv,by omega⟩
 rename_i h
 obtain⟨h1,h2,h3⟩:=Fh.1 hv
 have hx:c∉l:=fun q=>h (List.any_eq_true.2 ⟨c,q,(Y9 _ _).2 rfl⟩)
 rw[Fh,HB]
 refine⟨⟨fun y hy=>?_,IY NR NL h2 hx,by omega⟩,by omega⟩
 rcases Fb.1 hy with hy | rfl
 ·exact h1 y hy
 exact hc
theorem JQ {d:JAI}(hd:Dk d):Ok (CS d) fun r=>(Ee r.1=true/\r.1.length<=4)/\(Ef r.2.1=true/\r.2.1.length<=3)/\Dk r.2.2:=by
 unfold CS
 refine .bind (AL hd (by omega)) ?_
 rintro⟨v,d⟩ ⟨v1,v2,hd⟩
 dsimp only at v1 v2 hd ⊢
 refine .join (fun p:List JAB×JAI=>(Ee p.1=true/\p.1.length<=4)/\Dk p.2) (fun k hk=>?_) ?_
 ·refine .whileI (fun s:List JAB×Int×JAI=>(Ee s.1=true/\0<=s.2.1/\s.2.1+s.1.length<=4)/\Dk s.2.2) (fun s=>s.2.1.toNat) ⟨⟨rfl,v1,by simp only[X13];omega⟩,hd⟩ (BY (by simp only;omega)) ?_
  rintro next ⟨l,c,d⟩ ⟨⟨h1,h2,h3⟩,hd⟩ hnx
  dsimp only at h1 h2 h3 hd ⊢
  refine .ite (fun h=>?_) fun _=>hk (l,d) ⟨⟨h1,by dsimp only;omega⟩,hd⟩
  simp only[decide_eq_true_eq] at h
  refine .bind (AL hd (by omega)) ?_
  rintro⟨a,d⟩ ⟨a1,a2,hd⟩
  dsimp only at a1 a2 hd ⊢
  refine .bind (.geti (by simp only[X12,X13];omega)) fun x hx=>.bind (AL hd (by omega)) ?_
  rintro⟨b,d⟩ ⟨b1,b2,hd⟩
  dsimp only at b1 b2 hd ⊢
  refine .bind (AL hd (by omega)) ?_
  rintro⟨e,d⟩ ⟨e1,e2,hd⟩
  dsimp only at e1 e2 hd ⊢
  refine .bind (.geti (by simp only[X12,X13];omega)) fun y hy=>?_
  have hok:okC ⟨x,y⟩=true:=by
   have g1:=hx.1
   have g2:=hy.1
   rw[AO (by omega)] at g2
   simp only[List.mem_cons,List.not_mem_nil,or_false] at g1 g2
   simp only[okC,inR,X27,decide_eq_true_eq]
   omega
  have hadd:=WZ h1 hok (by omega)
  rw[Ur h1 hok (by omega),AC,AO (by omega)]
  dsimp only
  exact hnx _ ⟨⟨hadd.1,by dsimp only;omega,by have:=hadd.2;dsimp only;omega⟩,hd⟩ (by dsimp only;omega)
 rintro⟨l,d⟩ ⟨hl,hd⟩
 dsimp only at hl hd ⊢
 refine .bind (AL hd (by omega)) ?_
 rintro⟨v,d⟩ ⟨v1,v2,hd⟩
 dsimp only at v1 v2 hd ⊢
 refine .join (fun p:List JAF×JAI=>(Ef p.1=true/\p.1.length<=3)/\Dk p.2) (fun k hk=>?_) ?_
 ·refine .whileI (fun s:List JAF×Int×JAI=>(Ef s.1=true/\0<=s.2.1/\s.2.1+s.1.length<=3)/\Dk s.2.2) (fun s=>s.2.1.toNat) ⟨⟨rfl,v1,by simp only[X13];omega⟩,hd⟩ (BY (by simp only;omega)) ?_
  rintro next ⟨l,c,d⟩ ⟨⟨h1,h2,h3⟩,hd⟩ hnx
  dsimp only at h1 h2 h3 hd ⊢
  refine .ite (fun h=>?_) fun _=>hk (l,d) ⟨⟨h1,by dsimp only;omega⟩,hd⟩
  simp only[decide_eq_true_eq] at h
  refine .bind (AL hd (by omega)) ?_
  rintro⟨a,d⟩ ⟨a1,a2,hd⟩
  dsimp only at a1 a2 hd ⊢
  refine .bind (.geti (by simp only[X12,X13];omega)) fun x hx=>.bind (AL hd (by omega)) ?_
  rintro⟨b,d⟩ ⟨b1,b2,hd⟩
  dsimp only at b1 b2 hd ⊢
  refine .bind (AL hd (by omega)) ?_
  rintro⟨e,d⟩ ⟨e1,e2,hd⟩
  dsimp only at e1 e2 hd ⊢
  have hok:okL ⟨x,b,e⟩=true:=by
   have g1:=hx.1
   simp only[List.mem_cons,List.not_mem_nil,or_false] at g1
   simp only[okL,inR,X27,decide_eq_true_eq]
   omega
  have hadd:=XU h1 hok (by omega)
  rw[NI h1 hok (by omega),AC,AO (by omega)]
  dsimp only
  exact hnx _ ⟨⟨hadd.1,by dsimp only;omega,by have:=hadd.2;dsimp only;omega⟩,hd⟩ (by dsimp only;omega)
 rintro⟨m,d⟩ ⟨hm,hd⟩
 exact .ret ⟨hl,hm,hd⟩
def okO (x:JAA):Bool:=decide (1<=x.Type_/\x.Type_<=255)&&(unk x.Type_&&(decide (x.Flags=224)&&decide (x.Data.length<=255)))
def ltT (a b:JAA):Bool:=decide (a.Type_<b.Type_)
def Dm (l:List JAA):Bool:=l.all okO&&chainB ltT l
def Gq (a:JAE):Bool:=Dm a.Other&&(decide (-1<=a.Origin/\a.Origin<=2)&&(GX a.Path&&(a.Next.ok&&(decide (-1<=a.MED/\a.MED<=4294967295)&&(decide (-1<=a.Pref/\a.Pref<=4294967295)&&((decide (a.OTC=-1) || MH a.OTC)&&(Ee a.Communities&&(Ef a.JAF&&decide (a.Other.length<=8)))))))))
theorem Tu (a b c:JAA)(h1:ltT a b=true)(h2:ltT b c=true):ltT a c=true:=by simp only[ltT,decide_eq_true_eq] at *;omega
structure SmT (a:JAE):Prop where
 p:a.Path.length<=1000000
 t:tot a.Path<=1000000
 c:a.Communities.length<=1000000
 l:a.JAF.length<=1000000
 o:a.Other.length<=1000000
 d :∀u∈a.Other,u.Data.length<=1000000
theorem Im {d:JAI}(hd:Dk d):Ok (Du d) fun r=>(Gq r.1=true/\r.1.Path.length<=3/\tot r.1.Path<=12/\r.1.Communities.length<=4/\r.1.JAF.length<=3/\r.1.Other.length<=6/\∀u∈r.1.Other,u.Data.length<=9)/\Dk r.2:=by
 unfold Du
 rw[AH]
 refine .bind (AL hd (by omega)) ?_
 rintro⟨o,d⟩ ⟨o1,o2,hd⟩
 dsimp only at o1 o2 hd ⊢
 refine .bind (Pj hd) ?_
 rintro⟨p,d⟩ ⟨hp,hd⟩
 dsimp only at hp hd ⊢
 have e4:Iq 3=some ⟨false,(0:UInt64),(AW (3221225984+((AW (AN (1+3))).toNat:Int)))⟩:=rfl
 have e6:KZ 4=some ⟨true,(2306139568115548160:UInt64),(AW (AN (1+4)))⟩:=rfl
 rw[e4,AC,e6,AC]
 refine .bind (AL hd (by omega)) ?_
 rintro⟨x,d⟩ ⟨x1,x2,hd⟩
 dsimp only at x1 x2 hd ⊢
 refine .bind (.geti (by simp only[X12,X13];omega)) fun nx hnx=>?_
 have hnx:nx.ok=true:=by
  have:=hnx.1
  simp only[List.mem_cons,List.not_mem_nil,or_false] at this
  rcases this with rfl | rfl | rfl<;>decide
 refine .bind (AL hd (by omega)) ?_
 rintro⟨y,d⟩ ⟨y1,y2,hd⟩
 dsimp only at y1 y2 hd ⊢
 refine .bind (.geti (by simp only[X12,X13];omega)) fun med hmed=>?_
 refine .bind (AL hd (by omega)) ?_
 rintro⟨z,d⟩ ⟨z1,z2,hd⟩
 dsimp only at z1 z2 hd ⊢
 refine .bind (.geti (by simp only[X12,X13];omega)) fun pref hpref=>?_
 refine .bind (AL hd (by omega)) ?_
 rintro⟨w,d⟩ ⟨w1,w2,hd⟩
 dsimp only at w1 w2 hd ⊢
 refine .bind (.geti (by simp only[X12,X13];omega)) fun otc hotc=>?_
 refine .bind (JQ hd) ?_
 rintro⟨cs,ls,d⟩ ⟨hcs,hls,hd⟩
 dsimp only at hcs hls hd ⊢
 refine .join (fun q:JAI×List JAA=>((∀u∈q.2,okO u=true/\u.Data.length<=9)/\q.2.Pairwise (fun a b=>ltT a b=true)/\q.2.length<=6)/\Dk q.1) (fun k23 hk23=>?_) ?_
 ·refine .forX (fun i s=>((∀u∈s.2,okO u=true/\u.Data.length<=9/\∃j,j<i/\([6,7,16,34,200,255]:List Int)[j]?=some u.Type_)/\s.2.Pairwise (fun a b=>ltT a b=true)/\s.2.length<=i)/\Dk s.1) ⟨⟨by simp,.nil,by simp⟩,hd⟩ (fun s hs=>hk23 s ⟨⟨fun u hu=>⟨(hs.1.1 u hu).1,(hs.1.1 u hu).2.1⟩,hs.1.2.1,hs.1.2.2⟩,hs.2⟩) ?_
  rintro next kind i ⟨d,l⟩ hkind ⟨⟨g1,g2,g3⟩,hd⟩ hn
  dsimp only at g1 g2 g3 hd ⊢
  refine .bind (AL hd (by omega)) ?_
  rintro⟨c,d⟩ ⟨c1,c2,hd⟩
  dsimp only at c1 c2 hd ⊢
  have hi:i<6:=(X16.1 hkind).1
  refine .join (fun q:JAI×List JAA=>((∀u∈q.2,okO u=true/\u.Data.length<=9/\∃j,j<i+1/\([6,7,16,34,200,255]:List Int)[j]?=some u.Type_)/\q.2.Pairwise (fun a b=>ltT a b=true)/\q.2.length<=i+1)/\Dk q.1) (fun k31 hk31=>.ite (fun _=>?_) fun _=>hk31 (d,l) ⟨⟨fun u hu=>?_,g2,by dsimp only;omega⟩,hd⟩) fun q hq=>hn q hq
  ·refine .bind (OR hd (by omega)) ?_
   rintro⟨b,d⟩ ⟨hb,hd⟩
   dsimp only at hb hd ⊢
   refine .bind (Ok.apnd (by decide) (by simp;omega)) fun l2 hl2=>hk31 (d,l2) ⟨?_,hd⟩
   dsimp only
   rw[hl2]
   have hlt :∀j,j<i->∀t,([6,7,16,34,200,255]:List Int)[j]?=some t->t<kind:=by
    intro j hj t ht
    match i,j,hi,hj with
    | 1,0,_,_ | 2,0,_,_ | 2,1,_,_ | 3,0,_,_ | 3,1,_,_ | 3,2,_,_ | 4,0,_,_ | 4,1,_,_ | 4,2,_,_ | 4,3,_,_ | 5,0,_,_ | 5,1,_,_ | 5,2,_,_ | 5,3,_,_ | 5,4,_,_=>simp at ht hkind;omega
   have hkk:decide (1<=kind/\kind<=255)=true/\unk kind=true:=by
    have:=List.mem_of_getElem? hkind
    simp only[List.mem_cons,List.not_mem_nil,or_false] at this
    rcases this with rfl | rfl | rfl | rfl | rfl | rfl<;>decide
   refine⟨fun u hu=>?_,List.pairwise_append.2 ⟨g2,List.pairwise_singleton _ _,fun u hu v hv=>?_⟩,by simp only[X11,X22];omega⟩
   ·rcases X23.1 hu with hu | hu
    ·obtain⟨q1,q2,j,q3,q4⟩:=g1 u hu
     exact⟨q1,q2,j,by omega,q4⟩
    rw[X14] at hu
    subst hu
    refine⟨?_,by dsimp only;omega,i,by omega,hkind⟩
    unfold okO
    rw[hkk.1,hkk.2]
    simp only[Bool.true_and,X27,decide_eq_true_eq]
    exact⟨trivial,by omega⟩
   rw[X14] at hv
   subst hv
   obtain⟨_,_,j,q3,q4⟩:=g1 u hu
   have:=hlt j q3 _ q4
   simpa[ltT] using this
  obtain⟨q1,q2,j,q3,q4⟩:=g1 u hu
  exact⟨q1,q2,j,by omega,q4⟩
 rintro⟨d,l⟩ ⟨⟨g1,g2,g3⟩,hd⟩
 dsimp only at g1 g2 g3 hd ⊢
 refine .ret ⟨⟨?_,hp.1,hp.2.1,hcs.2,hls.2,g3,fun u hu=>(g1 u hu).2⟩,hd⟩
 have hmed:=hmed.1
 have hpref:=hpref.1
 have hotc:=hotc.1
 simp only[List.mem_cons,List.not_mem_nil,or_false] at hmed hpref hotc
 rw[AO (by omega)]
 have hO:Dm l=true:=by
  unfold Dm
  rw[X27,Hj Tu,List.all_eq_true]
  exact⟨fun u hu=>(g1 u hu).1,g2⟩
 unfold Gq
 simp only[hO,hp.2.2,hnx,hcs.1,hls.1,Bool.true_and,X27,decide_eq_true_eq,Bool.or_eq_true,MH]
 omega
theorem Vy {α ρ:Type}{K:Unit->Option ρ}{l:List α}{body:(Unit->Option ρ)->α->Nat->Unit->Option ρ}(h :∀next x (i:Nat),geti l (i:Int)=some x->body next x i ()=next ()):An K body l 0 ()=K ():=by
 have key :∀(t p:List α),l=p++t->An K body t p.length ()=K ():=by
  intro t
  induction t with
  | nil=>intro p _;rfl
  | cons x t ih=>
   intro p e
   show body (fun s=>An K body t (p.length+1) s) x p.length ()=_
   rw[h _ x p.length (by rw[e];exact M9 p x t)]
   have:=ih (p++[x]) (by rw[e];simp)
   simpa using this
 exact key l [] rfl
theorem Rq (l:List JAA):CE l l=some true:=by
 unfold CE
 rw[if_neg (by simp),AH]
 refine Vy fun next x i hg=>?_
 rw[AH]
 simp only[hg,AC,bne_self_eq_false,cond_false,beq_self_eq_true,Bool.not_true]
 rfl
theorem Xb (l:List JAB):EP l l=some true:=by
 unfold EP
 rw[if_neg (by simp),AH]
 refine Vy fun next x i hg=>?_
 rw[hg,AC,(Zm x x).2 rfl]
 rfl
theorem Xa (l:List JAF):B1 l l=some true:=by
 unfold B1
 rw[if_neg (by simp),AH]
 refine Vy fun next x i hg=>?_
 rw[hg,AC,(Y9 x x).2 rfl]
 rfl
theorem W7 (l:List JAC):ES l l=some true:=by
 unfold ES
 rw[if_neg (by simp),AH]
 refine Vy fun next x i hg=>?_
 rw[AH,AH,hg,AC,beq_self_eq_true,if_neg (by decide),AC]
 show (if (cond false true ((x.ASNs.length:Int) != (x.ASNs.length:Int)))=true then _ else _)=_
 rw[bne_self_eq_false,if_neg (by decide),AH]
 refine Vy fun next x2 i2 hg2=>?_
 rw[AC,hg2,AC,bne_self_eq_false]
 rfl
theorem fR (a b:Addr):Addr.eqd a b=true↔a=b:=by
 unfold Addr.eqd
 simp only[X27,beq_iff_eq,Bool.and_true,Int.natCast_inj,UInt64.toNat_inj]
 constructor
 ·rintro⟨h1,h2,h3⟩;cases a;cases b;simp_all
 rintro rfl;exact⟨rfl,rfl,rfl⟩
theorem TO (a:JAE):C9 a a=some true:=by
 unfold C9
 rw[AH,if_pos (by simp),W7,AC,(fR _ _).2 rfl,Xb,AC,Xa,AC,Rq,AC,beq_self_eq_true,beq_self_eq_true,beq_self_eq_true]
 rfl
theorem WN (a b:JAA):ltK HI a b=ltT a b:=by
 unfold ltK HI ltT
 rw[SR,ZZ,X28,decide_eq_true_eq,decide_eq_true_eq]
 split
 ·simp[*]
 split<;>omega
theorem eu {l:List JAA}(hl:l.length<=1000000){K:Unit->Option Bool} :
  An (σ:=Unit) K (fun next2 x3 i4 _=>
   AI (τ:=Bool) (fun k5=>
    if (decide (x3.Type_<1))=true then
     k5 true
    else
     if (cond false true (decide (x3.Type_ > 255)))=true then
      k5 true
     else
      Option.bind (DN x3.Type_) fun v6=>
      if (cond false true (!v6))=true then
       k5 true
      else
       if (cond false true (x3.Flags != 224))=true then
        k5 true
       else
        if (cond false true (decide ((x3.Data.length:Int) > 255)))=true then
         k5 true
        else
         if (decide ((i4:Int) > 0))=true then
          Option.bind (geti l (AN ((i4:Int)-1))) fun v7=>
          k5 (cond false true (cond true (decide (v7.Type_ ≥ x3.Type_)) false))
         else
          k5 false
   ) fun v8=>
   if v8=true then
    some false
   else
    next2 ()) l 0 ()=if Dm l=true then K () else some false:=by
 have hok :∀x:JAA,okO x=!(decide (x.Type_<1) || (decide (x.Type_ > 255) || ((!unk x.Type_) || ((x.Flags != 224) || decide ((x.Data.length:Int) > 255))))):=by
  intro x
  unfold okO
  have e1:decide (1<=x.Type_/\x.Type_<=255)=(!decide (x.Type_<1)&&!decide (x.Type_ > 255)):=by rw[X28];simp
  have e2:decide (x.Flags=224)=!(x.Flags != 224):=by rw[X28];simp
  have e3:decide (x.Data.length<=255)=!decide ((x.Data.length:Int) > 255):=by rw[X28];simp;omega
  rw[e1,e2,e3]
  cases decide (x.Type_ < 1)<;>cases decide (x.Type_ > 255)<;>cases unk x.Type_<;>cases (x.Flags != 224)<;>cases decide ((x.Data.length:Int) > 255)<;>rfl
 refine cA (ok:=okO) (lt:=ltT) (by omega) (fun next x _=>?_) fun next x y i _ _ hg=>?_
 ·rw[AH,Iz,AC,hok]
  cases decide (x.Type_ < 1)<;>cases decide (x.Type_ > 255)<;>cases unk x.Type_<;>cases (x.Flags != 224)<;>cases decide ((x.Data.length:Int) > 255)<;>rfl
 have e:decide (((i+1:Nat):Int) > 0)=true:=by simp
 have e2:decide (y.Type_ ≥ x.Type_)=!ltT y x:=by unfold ltT;rw[X28];simp
 rw[AH,Iz,AC,hok,hg,AC,e,e2]
 cases decide (x.Type_ < 1)<;>cases decide (x.Type_ > 255)<;>cases unk x.Type_<;>cases (x.Flags != 224)<;>cases decide ((x.Data.length:Int) > 255)<;>cases ltT y x<;>rfl
theorem YX {l:List JAA}(hl:l.length<=1000000):DW l=some (Dm l&&decide (l.length<=8)):=by
 unfold DW
 rw[AH]
 have hok :∀x:JAA,okO x=(unk x.Type_&&((decide (1<=x.Type_)&&decide (x.Type_<=255))&&(!(x.Flags != 224)&&!decide ((x.Data.length:Int) > 255)))):=by
  intro x
  unfold okO
  have e1:decide (1<=x.Type_/\x.Type_<=255)=(decide (1<=x.Type_)&&decide (x.Type_<=255)):=by rw[X28];simp
  have e2:decide (x.Flags=224)=!(x.Flags != 224):=by rw[X28];simp
  have e3:decide (x.Data.length<=255)=!decide ((x.Data.length:Int) > 255):=by rw[X28];simp;omega
  rw[e1,e2,e3]
  cases decide (1<=x.Type_)<;>cases decide (x.Type_<=255)<;>cases unk x.Type_<;>cases (x.Flags != 224)<;>cases decide ((x.Data.length:Int) > 255)<;>rfl
 refine (cA (ok:=okO) (lt:=ltT) (F:=some false) (by omega) (fun next x _=>?_) fun next x y i _ _ hg=>?_).trans ?_
 ·rw[AH,Dw,AC,GH,hok]
  cases decide (1<=x.Type_)<;>cases decide (x.Type_<=255)<;>cases unk x.Type_<;>cases (x.Flags != 224)<;>cases decide ((x.Data.length:Int) > 255)<;>rfl
 ·have e:decide (((i+1:Nat):Int) > 0)=true:=by simp
  have e2:decide (y.Type_ ≥ x.Type_)=!ltT y x:=by unfold ltT;rw[X28];simp
  rw[AH,Dw,AC,GH,hok,hg,e]
  simp only[AC,e2]
  cases decide (1<=x.Type_)<;>cases decide (x.Type_<=255)<;>cases unk x.Type_<;>cases (x.Flags != 224)<;>cases decide ((x.Data.length:Int) > 255)<;>cases ltT y x<;>rfl
 have e:decide ((l.length:Int)<=8)=decide (l.length<=8):=by rw[X28];simp;omega
 rw[e]
 unfold Dm
 generalize (l.all okO&&chainB ltT l)=b
 cases b<;>rfl
theorem OI {a:JAE}(h:SmT a):E6 a=some (Gq a):=by
 unfold E6
 rw[AH]
 refine (eu h.o).trans ?_
 unfold Gq
 by_cases hO:Dm a.Other=true
 rotate_left
 ·have hO:Dm a.Other=false:=by simpa using hO
  rw[hO];rfl
 rw[hO,if_pos rfl,AH,ID (by have:=h.p;omega) (by have:=h.t;omega),AC,Ey,AC,J7 (by have:=h.c;omega),HS (by have:=h.l;omega)]
 simp only[AC]
 have d1:decide (-1<=a.Origin/\a.Origin<=2)=(decide (a.Origin ≥ -1)&&decide (a.Origin<=2)):=by rw[X28];simp
 have d2:decide (-1<=a.MED/\a.MED<=4294967295)=(decide (a.MED ≥ -1)&&decide (a.MED<=4294967295)):=by rw[X28];simp
 have d3:decide (-1<=a.Pref/\a.Pref<=4294967295)=(decide (a.Pref ≥ -1)&&decide (a.Pref<=4294967295)):=by rw[X28];simp
 have d4:MH a.OTC=(decide (a.OTC ≥ 1)&&decide (a.OTC<=4294967295)):=rfl
 have d5:decide (a.OTC=-1)=(a.OTC==-1):=rfl
 have d6:decide (a.Other.length<=8)=decide ((a.Other.length:Int)<=8):=by rw[X28];simp;omega
 rw[d1,d2,d3,d4,d5,d6]
 generalize decide (a.Origin ≥ -1)=b1
 generalize decide (a.Origin<=2)=b2
 generalize GX a.Path=b3
 generalize a.Next.ok=b4
 generalize decide (a.MED ≥ -1)=b5
 generalize decide (a.MED<=4294967295)=b6
 generalize decide (a.Pref ≥ -1)=b7
 generalize decide (a.Pref<=4294967295)=b8
 generalize (a.OTC==-1)=b9
 generalize decide (a.OTC ≥ 1)=b10
 generalize decide (a.OTC<=4294967295)=b11
 generalize Ee a.Communities=b12
 generalize Ef a.JAF=b13
 generalize decide ((a.Other.length:Int)<=8)=b14
 cases b1
 ·rfl
 cases b2
 ·rfl
 cases b3
 ·rfl
 cases b4
 ·rfl
 cases b5
 ·rfl
 cases b6
 ·rfl
 cases b7
 ·rfl
 cases b8
 ·rfl
 cases b9<;>cases b10<;>cases b11<;>cases b12<;>cases b13<;>cases b14<;>rfl
theorem QW {a:JAE}(h:SmT a):DD a=some (Gq a):=by
 unfold DD Gq
 rw[AH,GH,AC,Jf (by have:=h.p;omega) (by have:=h.t;omega),AC,Ea,AC,GH,AC,GH,AC,Hu (by have:=h.c;omega),F9 (by have:=h.l;omega),YX h.o,number_eq]
 simp only[AC]
 have d1:decide (-1<=a.Origin/\a.Origin<=2)=(decide (-1<=a.Origin)&&decide (a.Origin<=2)):=by rw[X28];simp
 have d2:decide (-1<=a.MED/\a.MED<=4294967295)=(decide (-1<=a.MED)&&decide (a.MED<=4294967295)):=by rw[X28];simp
 have d3:decide (-1<=a.Pref/\a.Pref<=4294967295)=(decide (-1<=a.Pref)&&decide (a.Pref<=4294967295)):=by rw[X28];simp
 have d4:MH a.OTC=(decide (1<=a.OTC)&&decide (a.OTC<=4294967295)):=rfl
 have d5:decide (a.OTC=-1)=(a.OTC==-1):=rfl
 rw[d1,d2,d3,d4,d5]
 generalize (decide (-1<=a.Origin)&&decide (a.Origin<=2))=b1
 generalize GX a.Path=b3
 generalize a.Next.ok=b4
 generalize (decide (-1<=a.MED)&&decide (a.MED<=4294967295))=b5
 generalize (decide (-1<=a.Pref)&&decide (a.Pref<=4294967295))=b7
 generalize (a.OTC==-1)=b9
 generalize (decide (1<=a.OTC)&&decide (a.OTC<=4294967295))=b10
 generalize Ee a.Communities=b12
 generalize Ef a.JAF=b13
 generalize Dm a.Other=b14
 generalize decide (a.Other.length<=8)=b15
 cases b1
 ·simp
 cases b3
 ·simp
 cases b4
 ·simp
 cases b5
 ·simp
 cases b7
 ·simp
 cases b9<;>cases b10<;>cases b12<;>cases b13<;>cases b14<;>cases b15<;>rfl
def w4 (n:Int):List UInt8:=[(Ao (Int.fdiv n (2^(min (Int.toNat 24) 64)))),(Ao (Int.fdiv n (2^(min (Int.toNat 16) 64)))),(Ao (Int.fdiv n (2^(min (Int.toNat 8) 64)))),(Ao n)]
def w2 (n:Int):List UInt8:=[(Ao (Int.fdiv n (2^(min (Int.toNat 8) 64)))),(Ao n)]
theorem U8 (k n:Nat)(hk:k<64)(hn:n=8*k)(h8:k<9):min (Int.toNat ((AW (8*((AW (k:Int)).toNat:Int))).toNat:Int)) 64=min (Int.toNat (n:Int)) 64:=by
 have h1:(AW (k:Int)).toNat=k:=by
  unfold AW
  simp only[UInt64.toNat_ofNat']
  omega
 rw[h1]
 have h2:(AW (8*(k:Int))).toNat=n:=by
  unfold AW
  simp only[UInt64.toNat_ofNat']
  omega
 rw[h2]
theorem fdiv_one (n:Int):Int.fdiv n (2^(min (Int.toNat ((0:Nat):Int)) 64))=n:=by
 have:((2:Int)^(min (Int.toNat ((0:Nat):Int)) 64))=1:=rfl
 rw[this,Int.fdiv_one]
theorem X5 (v:Int){n:Int}(hn:n=4\/n=2):AS v n=some (if n=4 then w4 v else w2 v):=by
 unfold AS
 rw[AH]
 have s3:=U8 3 24 (by omega) rfl (by omega)
 have s2:=U8 2 16 (by omega) rfl (by omega)
 have s1:=U8 1 8 (by omega) rfl (by omega)
 have s0:=U8 0 0 (by omega) rfl (by omega)
 have s3:min (Int.toNat ((AW (8*((AW (3:Int)).toNat:Int))).toNat:Int)) 64=min (Int.toNat 24) 64:=s3
 have s2:min (Int.toNat ((AW (8*((AW (2:Int)).toNat:Int))).toNat:Int)) 64=min (Int.toNat 16) 64:=s2
 have s1:min (Int.toNat ((AW (8*((AW (1:Int)).toNat:Int))).toNat:Int)) 64=min (Int.toNat 8) 64:=s1
 have s0:min (Int.toNat ((AW (8*((AW (0:Int)).toNat:Int))).toNat:Int)) 64=min (Int.toNat ((0:Nat):Int)) 64:=s0
 refine (DU (fun s:Int×List UInt8=>(s.1=3\/s.1=2\/s.1=1\/s.1=0\/s.1=-1)/\s.2.length+(s.1+1).toNat<=4) (fun s=>(s.1+1).toNat) (fun s=>some (s.2++(w4 v).drop (3-s.1).toNat)) ?_ fuel (AN (n-1),[]) ?_ ?_).trans ?_
 ·rintro next ⟨i,l⟩ ⟨hi,hl⟩ hk
  dsimp only at hi hl ⊢
  rcases hi with rfl | rfl | rfl | rfl | rfl
  ·rw[if_pos (by decide),s3,AP (by decide) (by simp only[X22];omega),AC,AO (by omega),hk _ ⟨by simp,by simp only[X11,X22];omega⟩ (by simp only;omega)]
   simp[w4]
  ·rw[if_pos (by decide),s2,AP (by decide) (by simp only[X22];omega),AC,AO (by omega),hk _ ⟨by simp,by simp only[X11,X22];omega⟩ (by simp only;omega)]
   simp[w4]
  ·rw[if_pos (by decide),s1,AP (by decide) (by simp only[X22];omega),AC,AO (by omega),hk _ ⟨by simp,by simp only[X11,X22];omega⟩ (by simp only;omega)]
   simp[w4]
  ·rw[if_pos (by decide),s0,fdiv_one,AP (by decide) (by simp only[X22];omega),AC,AO (by omega),hk _ ⟨by simp,by simp only[X11,X22];omega⟩ (by simp only;omega)]
   simp[w4]
  rw[if_neg (by decide)]
  simp[w4]
 ·dsimp only
  rw[AO (by omega)]
  rcases hn with rfl | rfl
  ·exact⟨.inl rfl,by decide⟩
  exact⟨.inr (.inr (.inl rfl)),by decide⟩
 ·dsimp only
  rw[AO (by omega)]
  exact BY (by omega)
 dsimp only
 rw[AO (by omega)]
 rcases hn with rfl | rfl<;>rfl
theorem QV (v:Int):AS v 4=some (w4 v):=X5 v (.inl rfl)
theorem cF (v:Int):AS v 2=some (w2 v):=X5 v (.inr rfl)
theorem Uc (n:Int):(w4 n).length=4:=rfl
theorem OP (l:List Int):(l.flatMap w4).length=4*l.length:=by
 induction l with
 | nil=>rfl
 | cons x t ih=>rw[List.flatMap_cons,X11,ih,Uc,X12];omega
theorem put_eq {b:List UInt8}{l:List Int}(h:b.length+4*l.length<=1000000000):DR b l=some (b++l.flatMap w4):=by
 unfold DR
 rw[AH]
 refine (RS (g:=w4) (N:=1000000000) (by rw[OP];omega) fun next x i v _ hv=>?_).trans rfl
 have e:([(Ao (Int.fdiv x (2^(min (Int.toNat 24) 64)))),(Ao (Int.fdiv x (2^(min (Int.toNat 16) 64)))),(Ao (Int.fdiv x (2^(min (Int.toNat 8) 64)))),(Ao x)]:List UInt8)=w4 x:=rfl
 rw[e,AP (by decide) hv,AC]
theorem L0 (n:Int):BK [n]=some (w4 n):=by
 have:BK [n]=DR [] [n]:=rfl
 rw[this,put_eq (by simp)]
 rfl
def ZB (s:JAC):List UInt8:=[(if s.Set=true then (1:UInt8) else 2),Ao (s.ASNs.length:Int)]++s.ASNs.flatMap w4
def LR (p:List JAC):List UInt8:=p.flatMap ZB
theorem RZ (s:JAC):(ZB s).length=2+4*s.ASNs.length:=by
 unfold ZB
 rw[X11,OP];rfl
theorem Oo (p:List JAC):(LR p).length=2*p.length+4*tot p:=by
 unfold LR
 induction p with
 | nil=>rfl
 | cons s t ih=>rw[List.flatMap_cons,X11,ih,RZ,X12,EX];omega
theorem YI {p:List JAC}(h:2*p.length+4*tot p<=100000000):BZ p=some (LR p):=by
 unfold BZ
 rw[AH]
 have hl:=Oo p
 unfold LR at hl ⊢
 refine (RS (g:=ZB) (N:=100000000) (by rw[hl];simp only[X13];omega) fun next s i v _ hv=>?_).trans rfl
 rw[RZ] at hv
 rw[I3,AP (by decide) (by simp;omega),AC,put_eq (by simp;omega),AC,List.append_assoc]
 rfl
theorem Z3 {p:List JAC}(h:2*p.length+4*tot p<=100000000){ρ:Type}{K:List UInt8->Option ρ}:AI (τ:=(List UInt8)) (fun k7=>
     An (σ:=(List UInt8)) (fun v8=>
      k7 v8
     ) (fun next9 (x10:JAC) i11 v8=>
      AI (τ:=(List UInt8)) (fun k12=>
       AI (τ:=UInt8) (fun k13=>
        if x10.Set=true then
         k13 (1:UInt8)
        else
         k13 (2:UInt8)
       ) fun v14=>
       Option.bind (apnd (α:=UInt8) 1 v8 ([v14,(Ao (x10.ASNs.length:Int))]:List UInt8)) fun v15=>
       AI (τ:=(List UInt8)) (fun k16=>
        An (σ:=(List UInt8)) (fun v17=>
         k16 v17
        ) (fun next18 (x19:Int) i20 v17=>
         Option.bind (AS x19 4) fun v21=>
         Option.bind (apnd (α:=UInt8) 1 v17 v21) fun v22=>
         next18 v22
        ) x10.ASNs 0 v15
       ) fun v23=>
       k12 v23
      ) fun v24=>
      next9 v24
     ) p 0 ([]:List UInt8)
    ) K=K (LR p):=by
 rw[AH]
 have hl:=Oo p
 unfold LR at hl ⊢
 refine (RS (g:=ZB) (N:=100000000) (by rw[hl];simp only[X13];omega) fun next s i v _ hv=>?_).trans rfl
 rw[RZ] at hv
 rw[AH,I3,AP (by decide) (by simp;omega),AC,AH]
 refine (RS (g:=w4) (N:=1000000000) (by rw[OP];simp;omega) fun next x i v _ hv=>?_).trans ?_
 ·rw[QV,AC,AP (by decide) hv,AC]
 rw[List.append_assoc]
 rfl
def J9 (c:JAB):List UInt8:=w2 c.A++w2 c.B
def Ig (c:JAF):List UInt8:=w4 c.A++(w4 c.B++w4 c.C)
theorem OV (c:JAB):(J9 c).length=4:=rfl
theorem Lx (c:JAF):(Ig c).length=12:=rfl
theorem Oj (l:List JAB):(l.flatMap J9).length=4*l.length:=by
 induction l with
 | nil=>rfl
 | cons x t ih=>rw[List.flatMap_cons,X11,ih,OV,X12];omega
theorem OU (l:List JAF):(l.flatMap Ig).length=12*l.length:=by
 induction l with
 | nil=>rfl
 | cons x t ih=>rw[List.flatMap_cons,X11,ih,Lx,X12];omega
theorem XC {a b:Nat}(h:a%256=b%256):UInt8.ofNat a=UInt8.ofNat b:=by
 apply UInt8.toNat_inj.1
 simp only[UInt8.toNat_ofNat']
 exact h
theorem fd (n k:Nat):Int.fdiv (n:Int) (2^(min (Int.toNat (k:Int)) 64))=((n/2^(min k 64):Nat):Int):=by
 rw[Int.toNat_natCast]
 have:((2:Int)^(min k 64))=((2^(min k 64):Nat):Int):=by simp
 rw[this,Int.fdiv_eq_ediv_of_nonneg _ (Int.natCast_nonneg _),Int.natCast_ediv]
theorem ce (n:Nat):w4 (n:Int)=[UInt8.ofNat (n/16777216),UInt8.ofNat (n/65536),UInt8.ofNat (n/256),UInt8.ofNat n]:=by
 have h1:=fd n 24
 have h2:=fd n 16
 have h3:=fd n 8
 have h1:Int.fdiv (n:Int) (2^(min (Int.toNat 24) 64))=((n/2^(min 24 64):Nat):Int):=h1
 have h2:Int.fdiv (n:Int) (2^(min (Int.toNat 16) 64))=((n/2^(min 16 64):Nat):Int):=h2
 have h3:Int.fdiv (n:Int) (2^(min (Int.toNat 8) 64))=((n/2^(min 8 64):Nat):Int):=h3
 unfold w4
 rw[h1,h2,h3,D5,D5,D5,D5]
 rfl
theorem ZF (n:Nat):w2 (n:Int)=[UInt8.ofNat (n/256),UInt8.ofNat n]:=by
 have h3:=fd n 8
 have h3:Int.fdiv (n:Int) (2^(min (Int.toNat 8) 64))=((n/2^(min 8 64):Nat):Int):=h3
 unfold w2
 rw[h3,D5,D5]
 rfl
theorem Yv {c:JAB}(h:okC c=true):w4 (AN ((BitVec.ofInt 64 (AN (c.A*(2^(min (Int.toNat 16) 64)))) ||| BitVec.ofInt 64 c.B).toNat:Int))=J9 c:=by
 simp only[okC,inR,X27,decide_eq_true_eq] at h
 obtain⟨a,ha⟩ :∃a:Nat,c.A=a:=⟨c.A.toNat,by omega⟩
 obtain⟨b,hb⟩ :∃b:Nat,c.B=b:=⟨c.B.toNat,by omega⟩
 unfold J9
 rw[ha,hb] at h ⊢
 have e:((a:Int)*(2^(min (Int.toNat 16) 64)))=((a*65536:Nat):Int):=by
  have:min (Int.toNat 16) 64=16:=rfl
  rw[this];omega
 rw[e,AO (x:=((a*65536:Nat):Int)) (by omega),BitVec.ofInt_natCast,BitVec.ofInt_natCast,BitVec.toNat_or,BitVec.toNat_ofNat,BitVec.toNat_ofNat,Nat.mod_eq_of_lt (show a*65536<2^64 by omega),Nat.mod_eq_of_lt (show b<2^64 by omega),
  show a*65536=2^16*a by omega,<- Nat.two_pow_add_eq_or_of_lt (show b<2^16 by omega),AO (by omega),ce,ZF,ZF]
 have q1:(2^16*a+b)/16777216=a/256:=by omega
 have q2:(2^16*a+b)/65536=a:=by omega
 have q3:UInt8.ofNat ((2^16*a+b)/256)=UInt8.ofNat (b/256):=XC (by omega)
 have q4:UInt8.ofNat (2^16*a+b)=UInt8.ofNat b:=XC (by omega)
 rw[q1,q2,q3,q4]
 rfl
theorem XQ {l:List JAB}(hv :∀c∈l,okC c=true)(h:l.length<=1000000):Br l=some (l.flatMap J9):=by
 unfold Br
 rw[AH]
 refine (RS (g:=J9) (N:=100000000) (by rw[Oj];simp only[X13];omega) fun next c i v hc hl=>?_).trans rfl
 rw[OV] at hl
 rw[put_eq (by simp;omega),AC,List.flatMap_cons,List.flatMap_nil,List.append_nil,Yv (hv c hc)]
theorem XV {l:List JAF}(h:l.length<=1000000):Do l=some (l.flatMap Ig):=by
 unfold Do
 rw[AH]
 refine (RS (g:=Ig) (N:=100000000) (by rw[OU];simp only[X13];omega) fun next c i v hc hl=>?_).trans rfl
 rw[Lx] at hl
 rw[put_eq (by simp;omega),AC]
 simp[Ig]
def b4 (n:Nat):List UInt8:=[UInt8.ofNat (n/16777216),UInt8.ofNat (n/65536),UInt8.ofNat (n/256),UInt8.ofNat n]
theorem P0 {x:UInt64}{k n:Nat}(hn:n=8*k)(hk:k<8)(hx:x.toNat<4294967296):Ao ((AW (Int.fdiv (x.toNat:Int) (2^(min (Int.toNat (n:Int)) 64)))).toNat:Int)=UInt8.ofNat (x.toNat/2^n):=by
 rw[fd,Nat.min_eq_left (by omega),BP,D5]
 congr 1
 rw[UInt64.toNat_ofNat',Nat.mod_eq_of_lt]
 exact Nat.lt_of_le_of_lt (Nat.div_le_self _ _) (by omega)
theorem Addr.four {a:Addr}(h:a.ok=true)(h6:a.V6=false):a.Hi.toNat=0/\a.Lo.toNat<4294967296:=by
 unfold Addr.ok at h
 rw[h6,cond_false] at h
 cases h1:((a.Hi.toNat:Int)==0)
 ·rw[h1] at h;simp at h
 rw[h1,cond_true,decide_eq_true_eq] at h
 simp only[beq_iff_eq] at h1
 omega
theorem YV {a:Addr}(h:a.ok=true)(h6:a.V6=false):Ba a=some (b4 a.Lo.toNat):=by
 obtain⟨_,hlo⟩:=Addr.four h h6
 unfold Ba
 rw[Ey,AC,h,if_neg (by decide),AH,h6,if_neg (by decide)]
 show AI _ _=_
 rw[AH]
 have s3:=U8 3 24 (by omega) rfl (by omega)
 have s2:=U8 2 16 (by omega) rfl (by omega)
 have s1:=U8 1 8 (by omega) rfl (by omega)
 have s0:=U8 0 0 (by omega) rfl (by omega)
 have s3:min (Int.toNat ((AW (8*((AW (Int.tmod 3 8)).toNat:Int))).toNat:Int)) 64=min (Int.toNat ((24:Nat):Int)) 64:=s3
 have s2:min (Int.toNat ((AW (8*((AW (Int.tmod 2 8)).toNat:Int))).toNat:Int)) 64=min (Int.toNat ((16:Nat):Int)) 64:=s2
 have s1:min (Int.toNat ((AW (8*((AW (Int.tmod 1 8)).toNat:Int))).toNat:Int)) 64=min (Int.toNat ((8:Nat):Int)) 64:=s1
 have s0:min (Int.toNat ((AW (8*((AW (Int.tmod 0 8)).toNat:Int))).toNat:Int)) 64=min (Int.toNat ((0:Nat):Int)) 64:=s0
 refine (DU (fun s:Int×List UInt8=>(s.1=3\/s.1=2\/s.1=1\/s.1=0\/s.1=-1)/\s.2.length+(s.1+1).toNat<=4) (fun s=>(s.1+1).toNat) (fun s=>some (s.2++(b4 a.Lo.toNat).drop (3-s.1).toNat)) ?_ fuel (AN (4-1),[]) ?_ ?_).trans ?_
 ·rintro next ⟨i,l⟩ ⟨hi,hl⟩ hk
  dsimp only at hi hl ⊢
  rcases hi with rfl | rfl | rfl | rfl | rfl
  ·rw[if_pos (by decide),AH,if_neg (by decide),s3]
   show Option.bind _ _=_
   rw[P0 (n:=24) (k:=3) rfl (by omega) hlo,AP (by decide) (by simp only[X22];omega),AC,AO (by omega),hk _ ⟨by simp,by simp only[X11,X22];omega⟩ (by simp only;omega)]
   simp[b4]
  ·rw[if_pos (by decide),AH,if_neg (by decide),s2]
   show Option.bind _ _=_
   rw[P0 (n:=16) (k:=2) rfl (by omega) hlo,AP (by decide) (by simp only[X22];omega),AC,AO (by omega),hk _ ⟨by simp,by simp only[X11,X22];omega⟩ (by simp only;omega)]
   simp[b4]
  ·rw[if_pos (by decide),AH,if_neg (by decide),s1]
   show Option.bind _ _=_
   rw[P0 (n:=8) (k:=1) rfl (by omega) hlo,AP (by decide) (by simp only[X22];omega),AC,AO (by omega),hk _ ⟨by simp,by simp only[X11,X22];omega⟩ (by simp only;omega)]
   simp[b4]
  ·rw[if_pos (by decide),AH,if_neg (by decide),s0]
   show Option.bind _ _=_
   rw[P0 (n:=0) (k:=0) rfl (by omega) hlo,AP (by decide) (by simp only[X22];omega),AC,AO (by omega),hk _ ⟨by simp,by simp only[X11,X22];omega⟩ (by simp only;omega)]
   simp[b4]
  rw[if_neg (by decide)]
  simp[b4]
 ·dsimp only
  rw[AO (by omega)]
  exact⟨.inl rfl,by decide⟩
 ·dsimp only
  rw[AO (by omega)]
  exact BY (by omega)
 dsimp only
 rw[AO (by omega)]
 rfl
theorem Zs {x:UInt64}{h:UInt64}(hx:x.toNat<4294967296)(hh:h.toNat=0):(AW ((BitVec.ofInt 64 ((AW (Int.fdiv (x.toNat:Int) (2^(min (Int.toNat 8) 64)))).toNat:Int) ||| BitVec.ofInt 64 ((AW ((h.toNat:Int)*(2^(min (Int.toNat 56) 64)))).toNat:Int)).toNat:Int)).toNat=x.toNat/256/\
  (AW (Int.fdiv (h.toNat:Int) (2^(min (Int.toNat 8) 64)))).toNat=0:=by
 have e1:Int.fdiv (x.toNat:Int) (2^(min (Int.toNat 8) 64))=((x.toNat/256:Nat):Int):=fd x.toNat 8
 have e2:Int.fdiv (h.toNat:Int) (2^(min (Int.toNat 8) 64))=((h.toNat/256:Nat):Int):=fd h.toNat 8
 rw[e1,e2,hh,BP]
 have e3:(((0:Nat):Int)*(2^(min (Int.toNat 56) 64)))=((0:Nat):Int):=by simp
 rw[e3,BP,BP]
 have e4:(UInt64.ofNat 0).toNat=0:=rfl
 have e5:(UInt64.ofNat (x.toNat/256)).toNat=x.toNat/256:=by rw[UInt64.toNat_ofNat'];omega
 rw[e4,e5,BitVec.ofInt_natCast,BitVec.ofInt_natCast,BitVec.toNat_or,BitVec.toNat_ofNat,BitVec.toNat_ofNat,Nat.zero_mod,Nat.or_zero,Nat.mod_eq_of_lt (by omega)]
 exact⟨e5,rfl⟩
theorem W5 {a:Addr}(h:a.ok=true)(h6:a.V6=false):BN a=some (b4 a.Lo.toNat):=by
 obtain⟨hhi,hlo⟩:=Addr.four h h6
 unfold BN
 rw[Ea,AC,h,if_neg (by decide),AH,h6,if_neg (by decide)]
 have ck:chk ((0:Int)<=4/\(4:Int)<=4/\(4:Int)<=1048576)=some ():=by unfold chk;rw[if_pos (by decide)]
 show Option.bind (chk ((0:Int)<=4/\(4:Int)<=4/\(4:Int)<=1048576)) _=_
 rw[ck,AC,AH]
 refine (DU (fun s:Int×Addr×List UInt8=>∃j:Nat,j<=4/\s.1=3-(j:Int)/\s.2.1.Hi.toNat=0/\s.2.1.Lo.toNat=a.Lo.toNat/256^j/\s.2.2=List.replicate (4-j) 0++(b4 a.Lo.toNat).drop (4-j)) (fun s=>(s.1+1).toNat) (fun s=>some (b4 a.Lo.toNat)) ?_ fuel (AN (4-1),a,List.replicate (Int.toNat 4) (0:UInt8)) ?_ ?_).trans rfl
 ·rintro next ⟨i,x,l⟩ ⟨j,hj,h1,h2,h3,h4⟩ hk
  dsimp only at h1 h2 h3 h4 ⊢
  subst h1
  have hx:x.Lo.toNat<4294967296:=by
   rw[h3];exact Nat.lt_of_le_of_lt (Nat.div_le_self _ _) hlo
  obtain⟨s1,s2⟩:=Zs hx h2
  have hlt:j=4\/j<4:=by omega
  rcases hlt with rfl | hlt
  ·rw[if_neg (by decide),h4]
   simp[b4]
  have hlen:l.length=4:=by rw[h4];simp[b4]<;>omega
  have hg :∃y,geti l (3-(j:Int))=some y:=by
   obtain⟨y,hy,_⟩:=Ok.geti (l:=l) (i:=3-(j:Int)) (by omega)
   exact⟨y,hy⟩
  obtain⟨y,hy⟩:=hg
  have hs:seti l (3-(j:Int)) (Ao (x.Lo.toNat:Int))=some (l.set (3-j) (UInt8.ofNat x.Lo.toNat)):=by
   unfold seti
   rw[if_pos (by omega),D5]
   congr 2
   omega
  rw[if_pos (by simp only[decide_eq_true_eq];omega),hy,AC,hs,AC,AO (by omega)]
  refine hk _ ⟨j+1,by omega,by simp only;omega,s2,?_,?_⟩ (by simp only;omega)
  ·simp only
   rw[s1,h3,Nat.div_div_eq_div_mul,Nat.pow_succ]
  simp only
  rw[h4,h3]
  match j,hlt with
  | 0,_=>simp[b4]
  | 1,_=>simp[b4]
  | 2,_=>simp[b4]
  | 3,_=>simp[b4]
 ·refine⟨0,by omega,by dsimp only;rw[AO (by omega)];rfl,hhi,by simp,?_⟩
  simp[b4]
 dsimp only
 rw[AO (by omega)]
 exact BY (by omega)
theorem Ze (a:Addr) :∃r,BN a=some r:=by
 have:Ok (BN a) fun _=>True:=by
  unfold BN
  rw[Ea]
  refine .bind (P:=fun _=>True) ⟨_,rfl,trivial⟩ fun v _=>.ite (fun _=>.ret trivial) fun _=>?_
  refine .join (fun n:Int=>n=16\/n=4) (fun k hk=>.ite (fun _=>hk _ (.inl rfl)) fun _=>hk _ (.inr rfl)) fun n hn=>?_
  refine .bind (Ok.chk (by omega)) fun _ _=>.join (fun _=>True) (fun k hk=>?_) fun _ _=>.ret trivial
  refine .whileI (fun s:Int×Addr×List UInt8=>-1<=s.1/\s.1<n/\(s.2.2.length:Int)=n) (fun s=>(s.1+1).toNat) ⟨by dsimp only;rw[AO (by omega)];omega,by dsimp only;rw[AO (by omega)];omega,by dsimp only;rw[X20];omega⟩ (BY (by dsimp only;rw[AO (by omega)];omega)) ?_
  rintro next ⟨i,x,l⟩ ⟨h1,h2,h3⟩ hnx
  dsimp only at h1 h2 h3 ⊢
  refine .ite (fun h=>?_) fun _=>hk _ trivial
  simp only[decide_eq_true_eq] at h
  refine .bind (.geti (by omega)) fun _ _=>.bind (.seti (by omega)) fun l2 hl2=>?_
  rw[AO (by omega)]
  exact hnx _ ⟨by dsimp only;omega,by dsimp only;omega,by dsimp only;omega⟩ (by dsimp only;omega)
 obtain⟨r,h,_⟩:=this
 exact⟨r,h⟩
def Hf (a:JAE):Bool:=!a.Next.V6&&!(Addr.eqd a.Next ⟨false,0,0⟩)
def G (a:JAE)(k:Int):Option (List UInt8):=
 if k=1 then (if a.Origin≠-1 then some [Ao a.Origin] else none) else
 if k=2 then (if a.Origin≠-1\/a.Path≠[] then some (LR a.Path) else none) else
 if k=3 then (if Hf a=true then some (b4 a.Next.Lo.toNat) else none) else
 if k=4 then (if a.MED≠-1 then some (w4 a.MED) else none) else
 if k=5 then (if a.Pref≠-1 then some (w4 a.Pref) else none) else
 if k=8 then (if a.Communities≠[] then some (a.Communities.flatMap J9) else none) else
 if k=32 then (if a.JAF≠[] then some (a.JAF.flatMap Ig) else none) else
 if k=35 then (if a.OTC≠-1 then some (w4 a.OTC) else none) else none
def ent (a:JAE)(k:Int):List JAA:=match G a k with
 | some b=>[⟨fl k,k,b⟩]
 | none=>[]
def ofK (l:List JAA)(k:Int):List JAA:=l.flatMap fun x=>if (x.Type_==k)=true then [x] else []
def wrS (a:JAE):List JAA:=(List.range' 0 256).flatMap fun (k:Nat)=>ent a k++ofK a.Other k
theorem QF {a:JAE}{k:Int}(h:fl k=0):G a k=none:=by
 rcases FY k with ⟨_,e⟩|⟨_,e⟩|⟨_,e⟩|⟨_,e⟩|⟨_,e⟩|⟨_,e⟩|⟨_,e⟩|⟨_,e⟩|⟨e1,e2,e3,e4,e5,e6,e7,e8,_⟩
 iterate 8 (rw[e] at h;exact absurd h (by decide))
 unfold G
 rw[if_neg e1,if_neg e2,if_neg e3,if_neg e4,if_neg e5,if_neg e6,if_neg e7,if_neg e8]
theorem P8 {l:List JAA}{k:Int}{y:JAA}:y∈ofK l k↔y∈l/\y.Type_=k:=by
 unfold ofK
 rw[List.mem_flatMap]
 constructor
 ·rintro⟨x,hx,h⟩
  split at h
  ·rename_i hc
   rw[X14] at h
   subst h
   exact⟨hx,by simpa using hc⟩
  simp at h
 rintro⟨hy,e⟩
 exact⟨y,hy,by rw[if_pos (by simpa using e)];simp⟩
theorem I5 {a:JAE}{k:Int}{y:JAA}:y∈ent a k ↔∃b,G a k=some b/\y=⟨fl k,k,b⟩:=by
 unfold ent
 cases G a k with
 | none=>simp
 | some b=>simp
theorem NY {a:JAE}{k:Int}{y:JAA}(h:y∈ent a k):y.Type_=k:=by
 obtain⟨b,_,rfl⟩:=I5.1 h
 rfl
theorem XD {a:JAE}(hO:Dm a.Other=true){y:JAA}:y∈wrS a↔(∃k,y∈ent a k)\/y∈a.Other:=by
 unfold wrS
 simp only[List.mem_flatMap,List.mem_range'_1,X23]
 constructor
 ·rintro⟨k,hk,h | h⟩
  ·exact .inl ⟨_,h⟩
  exact .inr (P8.1 h).1
 rintro (⟨k,h⟩|h)
 ·obtain⟨b,hb,_⟩:=I5.1 h
  have hk:0<=k/\k<256:=by
   rcases FY k with ⟨e,_⟩|⟨e,_⟩|⟨e,_⟩|⟨e,_⟩|⟨e,_⟩|⟨e,_⟩|⟨e,_⟩|⟨e,_⟩|e
   iterate 8 omega
   rw[QF e.2.2.2.2.2.2.2.2] at hb;cases hb
  refine⟨k.toNat,by omega,.inl ?_⟩
  rw[show ((k.toNat:Nat):Int)=k by omega]
  exact h
 unfold Dm at hO
 rw[X27,List.all_eq_true] at hO
 have:=hO.1 y h
 simp only[okO,X27,decide_eq_true_eq] at this
 exact⟨y.Type_.toNat,by omega,.inr (P8.2 ⟨h,by omega⟩)⟩
theorem Hh {l:List JAA}(hO:Dm l=true){x:JAA}(h:x∈l):unk x.Type_=true/\1<=x.Type_/\x.Type_<=255/\x.Flags=224/\x.Data.length<=255:=by
 unfold Dm at hO
 rw[X27,List.all_eq_true] at hO
 have:=hO.1 x h
 simp only[okO,X27,decide_eq_true_eq] at this
 exact⟨this.2.1,this.1.1,this.1.2,this.2.2.1,this.2.2.2⟩
theorem Z9 {t:Int}(h:unk t=true):fl t=0:=by
 simp only[unk,X27,decide_eq_true_eq] at h
 exact h.1
theorem Nz {l:List JAA}(hO:Dm l=true):l.Pairwise fun a b=>ltT a b=true:=by
 unfold Dm at hO
 rw[X27] at hO
 exact (Hj Tu).1 hO.2
theorem N3 {a:JAE}(hO:Dm a.Other=true):(wrS a).Pairwise fun a b=>ltK HI a b=true:=by
 unfold wrS
 rw[List.pairwise_flatMap]
 have ht :∀(k:Nat) y,y∈ent a k++ofK a.Other k->y.Type_=k:=by
  intro k y hy
  rcases X23.1 hy with h | h
  ·exact NY h
  exact (P8.1 h).2
 constructor
 ·intro k _
  rw[List.pairwise_append]
  refine⟨?_,?_,?_⟩
  ·unfold ent
   split
   ·exact List.pairwise_singleton _ _
   exact .nil
  ·unfold ofK
   rw[List.pairwise_flatMap]
   refine⟨fun x _=>Ob,(Nz hO).imp fun {p q} hpq x hx y hy=>?_⟩
   have e1:p.Type_=k:=by
    split at hx
    ·simpa using ‹(p.Type_==(k:Int))=true›
    simp at hx
   have e2:q.Type_=k:=by
    split at hy
    ·simpa using ‹(q.Type_==(k:Int))=true›
    simp at hy
   simp only[ltT,decide_eq_true_eq] at hpq
   omega
  intro x hx y hy
  obtain⟨b,hb,_⟩:=I5.1 hx
  obtain⟨hy1,hy2⟩:=P8.1 hy
  have:=Z9 (Hh hO hy1).1
  rw[hy2] at this
  rw[QF this] at hb;cases hb
 refine (List.pairwise_lt_range' (s:=0) (n:=256)).imp fun {p q} hpq x hx y hy=>?_
 have e1:=ht p x hx
 have e2:=ht q y hy
 rw[WN]
 simp only[ltT,decide_eq_true_eq]
 omega
theorem bK {a:JAE}(hO:Dm a.Other=true):Pm (wrS a):=(N3 hO).imp fun {p q} h e=>by
 rw[WN] at h
 simp only[ltT,decide_eq_true_eq] at h
 omega
def WR3 (a0:JAE)(v26:List (Int×(List UInt8))):Option ((List JAA)×Int):=
 AI (τ:=Bool) (fun k27=>
  if (!(Addr.eqd a0.Next (⟨false,(0:UInt64),(0:UInt64)⟩:Addr))) then
   k27 (cond true (!a0.Next.V6) false)
  else
   k27 false
 ) fun v28=>
 AI (τ:=(List (Int×(List UInt8)))) (fun k29=>
  if v28 then
   Option.bind (Ba a0.Next) fun v30=>
   k29 (CW v26 3 v30)
  else
   k29 v26
 ) fun v31=>
 AI (τ:=(List (Int×(List UInt8)))) (fun k32=>
  if (decide (a0.MED ≥ 0)) then
   Option.bind (AS a0.MED 4) fun v33=>
   k32 (CW v31 4 v33)
  else
   k32 v31
 ) fun v34=>
 AI (τ:=(List (Int×(List UInt8)))) (fun k35=>
  if (decide (a0.Pref ≥ 0)) then
   Option.bind (AS a0.Pref 4) fun v36=>
   k35 (CW v34 5 v36)
  else
   k35 v34
 ) fun v37=>
 AI (τ:=(List (Int×(List UInt8)))×(List UInt8)) (fun k38=>
  Option.bind (chk ((BB v37 8).isNone=true)) fun _=>
  An (σ:=(List (Int×(List UInt8)))×(List UInt8)) (fun (v39,v40)=>
   k38 (v39,v40)
  ) (fun next41 (x42:JAB) i43 (v39,v40)=>
   Option.bind (AS x42.A 2) fun v44=>
   Option.bind (apnd (α:=UInt8) 1 v40 v44) fun v45=>
   Option.bind (AS x42.B 2) fun v46=>
   Option.bind (apnd (α:=UInt8) 1 v45 v46) fun v47=>
   next41 ((CW v39 8 v47),v47)
  ) a0.Communities 0 (v37,[])
 ) fun (v48,v49)=>
 AI (τ:=(List (Int×(List UInt8)))×(List UInt8)) (fun k50=>
  Option.bind (chk ((BB v48 32).isNone=true)) fun _=>
  An (σ:=(List (Int×(List UInt8)))×(List UInt8)) (fun (v51,v52)=>
   k50 (v51,v52)
  ) (fun next53 (x54:JAF) i55 (v51,v52)=>
   Option.bind (AS x54.A 4) fun v56=>
   Option.bind (apnd (α:=UInt8) 1 v52 v56) fun v57=>
   Option.bind (AS x54.B 4) fun v58=>
   Option.bind (apnd (α:=UInt8) 1 v57 v58) fun v59=>
   Option.bind (AS x54.C 4) fun v60=>
   Option.bind (apnd (α:=UInt8) 1 v59 v60) fun v61=>
   next53 ((CW v51 32 v61),v61)
  ) a0.JAF 0 (v48,[])
 ) fun (v62,v63)=>
 AI (τ:=(List (Int×(List UInt8)))) (fun k64=>
  if (decide (a0.OTC ≥ 0)) then
   Option.bind (AS a0.OTC 4) fun v65=>
   k64 (CW v62 35 v65)
  else
   k64 v62
 ) fun v66=>
 AI (τ:=(List JAA)) (fun k67=>
  A2 (σ:=Int×(List JAA)) (fun next68 (v69,v70)=>
   if (decide (v69<256)) then
    AI (τ:=(List JAA)) (fun k71=>
     Option.bind (some (Option.getD (BB v66 v69) [])) fun v72=>
     Option.bind (some (Option.isSome (BB v66 v69))) fun v73=>
     AI (τ:=(List JAA)) (fun k74=>
      if v73 then
       Option.bind (Bc v69) fun v75=>
       Option.bind (apnd (α:=UInt8) 1 [] v72) fun _=>
       Option.bind (apnd (α:=JAA) 40 v70 ([(⟨v75,v69,v72⟩:JAA)]:List JAA)) fun v76=>
       k74 v76
      else
       k74 v70
     ) fun v77=>
     AI (τ:=(List JAA)) (fun k78=>
      An (σ:=(List JAA)) (fun v79=>
       k78 v79
      ) (fun next80 (x81:JAA) i82 v79=>
       AI (τ:=(List JAA)) (fun k83=>
        if (x81.Type_==v69) then
         Option.bind (apnd (α:=UInt8) 1 [] x81.Data) fun _=>
         Option.bind (apnd (α:=JAA) 40 v79 ([{ x81 with Type_:=v69 }]:List JAA)) fun v84=>
         k83 v84
        else
         k83 v79
       ) fun v85=>
       next80 v85
      ) a0.Other 0 v77
     ) fun v86=>
     k71 v86
    ) fun v87=>
    next68 ((AN (v69+1)),v87)
   else
    k67 v70
  ) fuel (0,[])
 ) fun v88=>
 some (v88,0)
def WR4 (a0:JAE)(v31:List (Int×(List UInt8))):Option ((List JAA)×Int):=
 AI (τ:=(List (Int×(List UInt8)))) (fun k32=>
  if (decide (a0.MED ≥ 0)) then
   Option.bind (AS a0.MED 4) fun v33=>
   k32 (CW v31 4 v33)
  else
   k32 v31
 ) fun v34=>
 AI (τ:=(List (Int×(List UInt8)))) (fun k35=>
  if (decide (a0.Pref ≥ 0)) then
   Option.bind (AS a0.Pref 4) fun v36=>
   k35 (CW v34 5 v36)
  else
   k35 v34
 ) fun v37=>
 AI (τ:=(List (Int×(List UInt8)))×(List UInt8)) (fun k38=>
  Option.bind (chk ((BB v37 8).isNone=true)) fun _=>
  An (σ:=(List (Int×(List UInt8)))×(List UInt8)) (fun (v39,v40)=>
   k38 (v39,v40)
  ) (fun next41 (x42:JAB) i43 (v39,v40)=>
   Option.bind (AS x42.A 2) fun v44=>
   Option.bind (apnd (α:=UInt8) 1 v40 v44) fun v45=>
   Option.bind (AS x42.B 2) fun v46=>
   Option.bind (apnd (α:=UInt8) 1 v45 v46) fun v47=>
   next41 ((CW v39 8 v47),v47)
  ) a0.Communities 0 (v37,[])
 ) fun (v48,v49)=>
 AI (τ:=(List (Int×(List UInt8)))×(List UInt8)) (fun k50=>
  Option.bind (chk ((BB v48 32).isNone=true)) fun _=>
  An (σ:=(List (Int×(List UInt8)))×(List UInt8)) (fun (v51,v52)=>
   k50 (v51,v52)
  ) (fun next53 (x54:JAF) i55 (v51,v52)=>
   Option.bind (AS x54.A 4) fun v56=>
   Option.bind (apnd (α:=UInt8) 1 v52 v56) fun v57=>
   Option.bind (AS x54.B 4) fun v58=>
   Option.bind (apnd (α:=UInt8) 1 v57 v58) fun v59=>
   Option.bind (AS x54.C 4) fun v60=>
   Option.bind (apnd (α:=UInt8) 1 v59 v60) fun v61=>
   next53 ((CW v51 32 v61),v61)
  ) a0.JAF 0 (v48,[])
 ) fun (v62,v63)=>
 AI (τ:=(List (Int×(List UInt8)))) (fun k64=>
  if (decide (a0.OTC ≥ 0)) then
   Option.bind (AS a0.OTC 4) fun v65=>
   k64 (CW v62 35 v65)
  else
   k64 v62
 ) fun v66=>
 AI (τ:=(List JAA)) (fun k67=>
  A2 (σ:=Int×(List JAA)) (fun next68 (v69,v70)=>
   if (decide (v69<256)) then
    AI (τ:=(List JAA)) (fun k71=>
     Option.bind (some (Option.getD (BB v66 v69) [])) fun v72=>
     Option.bind (some (Option.isSome (BB v66 v69))) fun v73=>
     AI (τ:=(List JAA)) (fun k74=>
      if v73 then
       Option.bind (Bc v69) fun v75=>
       Option.bind (apnd (α:=UInt8) 1 [] v72) fun _=>
       Option.bind (apnd (α:=JAA) 40 v70 ([(⟨v75,v69,v72⟩:JAA)]:List JAA)) fun v76=>
       k74 v76
      else
       k74 v70
     ) fun v77=>
     AI (τ:=(List JAA)) (fun k78=>
      An (σ:=(List JAA)) (fun v79=>
       k78 v79
      ) (fun next80 (x81:JAA) i82 v79=>
       AI (τ:=(List JAA)) (fun k83=>
        if (x81.Type_==v69) then
         Option.bind (apnd (α:=UInt8) 1 [] x81.Data) fun _=>
         Option.bind (apnd (α:=JAA) 40 v79 ([{ x81 with Type_:=v69 }]:List JAA)) fun v84=>
         k83 v84
        else
         k83 v79
       ) fun v85=>
       next80 v85
      ) a0.Other 0 v77
     ) fun v86=>
     k71 v86
    ) fun v87=>
    next68 ((AN (v69+1)),v87)
   else
    k67 v70
  ) fuel (0,[])
 ) fun v88=>
 some (v88,0)
def WR5 (a0:JAE)(v34:List (Int×(List UInt8))):Option ((List JAA)×Int):=
 AI (τ:=(List (Int×(List UInt8)))) (fun k35=>
  if (decide (a0.Pref ≥ 0)) then
   Option.bind (AS a0.Pref 4) fun v36=>
   k35 (CW v34 5 v36)
  else
   k35 v34
 ) fun v37=>
 AI (τ:=(List (Int×(List UInt8)))×(List UInt8)) (fun k38=>
  Option.bind (chk ((BB v37 8).isNone=true)) fun _=>
  An (σ:=(List (Int×(List UInt8)))×(List UInt8)) (fun (v39,v40)=>
   k38 (v39,v40)
  ) (fun next41 (x42:JAB) i43 (v39,v40)=>
   Option.bind (AS x42.A 2) fun v44=>
   Option.bind (apnd (α:=UInt8) 1 v40 v44) fun v45=>
   Option.bind (AS x42.B 2) fun v46=>
   Option.bind (apnd (α:=UInt8) 1 v45 v46) fun v47=>
   next41 ((CW v39 8 v47),v47)
  ) a0.Communities 0 (v37,[])
 ) fun (v48,v49)=>
 AI (τ:=(List (Int×(List UInt8)))×(List UInt8)) (fun k50=>
  Option.bind (chk ((BB v48 32).isNone=true)) fun _=>
  An (σ:=(List (Int×(List UInt8)))×(List UInt8)) (fun (v51,v52)=>
   k50 (v51,v52)
  ) (fun next53 (x54:JAF) i55 (v51,v52)=>
   Option.bind (AS x54.A 4) fun v56=>
   Option.bind (apnd (α:=UInt8) 1 v52 v56) fun v57=>
   Option.bind (AS x54.B 4) fun v58=>
   Option.bind (apnd (α:=UInt8) 1 v57 v58) fun v59=>
   Option.bind (AS x54.C 4) fun v60=>
   Option.bind (apnd (α:=UInt8) 1 v59 v60) fun v61=>
   next53 ((CW v51 32 v61),v61)
  ) a0.JAF 0 (v48,[])
 ) fun (v62,v63)=>
 AI (τ:=(List (Int×(List UInt8)))) (fun k64=>
  if (decide (a0.OTC ≥ 0)) then
   Option.bind (AS a0.OTC 4) fun v65=>
   k64 (CW v62 35 v65)
  else
   k64 v62
 ) fun v66=>
 AI (τ:=(List JAA)) (fun k67=>
  A2 (σ:=Int×(List JAA)) (fun next68 (v69,v70)=>
   if (decide (v69<256)) then
    AI (τ:=(List JAA)) (fun k71=>
     Option.bind (some (Option.getD (BB v66 v69) [])) fun v72=>
     Option.bind (some (Option.isSome (BB v66 v69))) fun v73=>
     AI (τ:=(List JAA)) (fun k74=>
      if v73 then
       Option.bind (Bc v69) fun v75=>
       Option.bind (apnd (α:=UInt8) 1 [] v72) fun _=>
       Option.bind (apnd (α:=JAA) 40 v70 ([(⟨v75,v69,v72⟩:JAA)]:List JAA)) fun v76=>
       k74 v76
      else
       k74 v70
     ) fun v77=>
     AI (τ:=(List JAA)) (fun k78=>
      An (σ:=(List JAA)) (fun v79=>
       k78 v79
      ) (fun next80 (x81:JAA) i82 v79=>
       AI (τ:=(List JAA)) (fun k83=>
        if (x81.Type_==v69) then
         Option.bind (apnd (α:=UInt8) 1 [] x81.Data) fun _=>
         Option.bind (apnd (α:=JAA) 40 v79 ([{ x81 with Type_:=v69 }]:List JAA)) fun v84=>
         k83 v84
        else
         k83 v79
       ) fun v85=>
       next80 v85
      ) a0.Other 0 v77
     ) fun v86=>
     k71 v86
    ) fun v87=>
    next68 ((AN (v69+1)),v87)
   else
    k67 v70
  ) fuel (0,[])
 ) fun v88=>
 some (v88,0)
def WR8 (a0:JAE)(v37:List (Int×(List UInt8))):Option ((List JAA)×Int):=
 AI (τ:=(List (Int×(List UInt8)))×(List UInt8)) (fun k38=>
  Option.bind (chk ((BB v37 8).isNone=true)) fun _=>
  An (σ:=(List (Int×(List UInt8)))×(List UInt8)) (fun (v39,v40)=>
   k38 (v39,v40)
  ) (fun next41 (x42:JAB) i43 (v39,v40)=>
   Option.bind (AS x42.A 2) fun v44=>
   Option.bind (apnd (α:=UInt8) 1 v40 v44) fun v45=>
   Option.bind (AS x42.B 2) fun v46=>
   Option.bind (apnd (α:=UInt8) 1 v45 v46) fun v47=>
   next41 ((CW v39 8 v47),v47)
  ) a0.Communities 0 (v37,[])
 ) fun (v48,v49)=>
 AI (τ:=(List (Int×(List UInt8)))×(List UInt8)) (fun k50=>
  Option.bind (chk ((BB v48 32).isNone=true)) fun _=>
  An (σ:=(List (Int×(List UInt8)))×(List UInt8)) (fun (v51,v52)=>
   k50 (v51,v52)
  ) (fun next53 (x54:JAF) i55 (v51,v52)=>
   Option.bind (AS x54.A 4) fun v56=>
   Option.bind (apnd (α:=UInt8) 1 v52 v56) fun v57=>
   Option.bind (AS x54.B 4) fun v58=>
   Option.bind (apnd (α:=UInt8) 1 v57 v58) fun v59=>
   Option.bind (AS x54.C 4) fun v60=>
   Option.bind (apnd (α:=UInt8) 1 v59 v60) fun v61=>
   next53 ((CW v51 32 v61),v61)
  ) a0.JAF 0 (v48,[])
 ) fun (v62,v63)=>
 AI (τ:=(List (Int×(List UInt8)))) (fun k64=>
  if (decide (a0.OTC ≥ 0)) then
   Option.bind (AS a0.OTC 4) fun v65=>
   k64 (CW v62 35 v65)
  else
   k64 v62
 ) fun v66=>
 AI (τ:=(List JAA)) (fun k67=>
  A2 (σ:=Int×(List JAA)) (fun next68 (v69,v70)=>
   if (decide (v69<256)) then
    AI (τ:=(List JAA)) (fun k71=>
     Option.bind (some (Option.getD (BB v66 v69) [])) fun v72=>
     Option.bind (some (Option.isSome (BB v66 v69))) fun v73=>
     AI (τ:=(List JAA)) (fun k74=>
      if v73 then
       Option.bind (Bc v69) fun v75=>
       Option.bind (apnd (α:=UInt8) 1 [] v72) fun _=>
       Option.bind (apnd (α:=JAA) 40 v70 ([(⟨v75,v69,v72⟩:JAA)]:List JAA)) fun v76=>
       k74 v76
      else
       k74 v70
     ) fun v77=>
     AI (τ:=(List JAA)) (fun k78=>
      An (σ:=(List JAA)) (fun v79=>
       k78 v79
      ) (fun next80 (x81:JAA) i82 v79=>
       AI (τ:=(List JAA)) (fun k83=>
        if (x81.Type_==v69) then
         Option.bind (apnd (α:=UInt8) 1 [] x81.Data) fun _=>
         Option.bind (apnd (α:=JAA) 40 v79 ([{ x81 with Type_:=v69 }]:List JAA)) fun v84=>
         k83 v84
        else
         k83 v79
       ) fun v85=>
       next80 v85
      ) a0.Other 0 v77
     ) fun v86=>
     k71 v86
    ) fun v87=>
    next68 ((AN (v69+1)),v87)
   else
    k67 v70
  ) fuel (0,[])
 ) fun v88=>
 some (v88,0)
def WRk (a0:JAE)(v66:List (Int×(List UInt8))):Option ((List JAA)×Int):=
 AI (τ:=(List JAA)) (fun k67=>
  A2 (σ:=Int×(List JAA)) (fun next68 (v69,v70)=>
   if (decide (v69<256)) then
    AI (τ:=(List JAA)) (fun k71=>
     Option.bind (some (Option.getD (BB v66 v69) [])) fun v72=>
     Option.bind (some (Option.isSome (BB v66 v69))) fun v73=>
     AI (τ:=(List JAA)) (fun k74=>
      if v73 then
       Option.bind (Bc v69) fun v75=>
       Option.bind (apnd (α:=UInt8) 1 [] v72) fun _=>
       Option.bind (apnd (α:=JAA) 40 v70 ([(⟨v75,v69,v72⟩:JAA)]:List JAA)) fun v76=>
       k74 v76
      else
       k74 v70
     ) fun v77=>
     AI (τ:=(List JAA)) (fun k78=>
      An (σ:=(List JAA)) (fun v79=>
       k78 v79
      ) (fun next80 (x81:JAA) i82 v79=>
       AI (τ:=(List JAA)) (fun k83=>
        if (x81.Type_==v69) then
         Option.bind (apnd (α:=UInt8) 1 [] x81.Data) fun _=>
         Option.bind (apnd (α:=JAA) 40 v79 ([{ x81 with Type_:=v69 }]:List JAA)) fun v84=>
         k83 v84
        else
         k83 v79
       ) fun v85=>
       next80 v85
      ) a0.Other 0 v77
     ) fun v86=>
     k71 v86
    ) fun v87=>
    next68 ((AN (v69+1)),v87)
   else
    k67 v70
  ) fuel (0,[])
 ) fun v88=>
 some (v88,0)
theorem Gv (a:JAE)(k:Int):(ent a k).length<=1:=by unfold ent;split<;>simp
theorem bH (l:List JAA)(k:Int):(ofK l k).length<=l.length:=KG (fun x=>by split<;>simp) l
structure Puts (m:List (Int×List UInt8))(a:JAE)(ks:List Int):Prop where
 h :∀k,BB m k=if k∈ks then G a k else none
theorem Puts.add {m:List (Int×List UInt8)}{a:JAE}{ks:List Int}(p:Puts m a ks)(k:Int){b:List UInt8}(hb:G a k=some b):Puts (CW m k b) a (k::ks):=⟨fun j=>by
 rw[Go.AX.mget_mset,p.h]
 by_cases h:j=k
 ·subst h;simp[hb]
 have:(j==k)=false:=by simpa using h
 rw[this];simp[h]⟩
theorem Puts.skip {m:List (Int×List UInt8)}{a:JAE}{ks:List Int}(p:Puts m a ks)(k:Int)(hb:G a k=none):Puts m a (k::ks):=⟨fun j=>by
 rw[p.h]
 by_cases h:j=k
 ·subst h;simp[hb]
 simp[h]⟩
theorem eX {β ρ:Type}{w:β->List UInt8}{k:Int}{N:Nat}{K:List (Int×List UInt8)×List UInt8->Option ρ}{body:(List (Int×List UInt8)×List UInt8->Option ρ)->β->Nat->List (Int×List UInt8)×List UInt8->Option ρ}{l:List β}{m:List (Int×List UInt8)}
  {R:Option ρ} (hN:(l.flatMap w).length<=N) (hb :∀next x i m b,x∈l->b.length+(w x).length<=N->body next x i (m,b)=next (CW m k (b++w x),b++w x))
  (hK :∀m' b',(∀j,BB m' j=if l≠[]/\j=k then some (l.flatMap w) else BB m j)->K (m',b')=R):An K body l 0 (m,[])=R:=by
 have key :∀(t:List β) (i:Nat) (m:List (Int×List UInt8)) (b:List UInt8),(∀x∈t,x∈l)->b.length+(t.flatMap w).length<=N->∃m' b',An K body t i (m,b)=K (m',b')/\∀j,BB m' j=if t≠[]/\j=k then some (b++t.flatMap w) else BB m j:=by
  intro t
  induction t with
  | nil=>intro i m b _ _;exact⟨m,b,rfl,fun j=>by simp⟩
  | cons x t ih=>
   intro i m b hx hl
   rw[List.flatMap_cons,X11] at hl
   obtain⟨m',b',e,h⟩:=ih (i+1) (CW m k (b++w x)) (b++w x) (fun y hy=>hx y (X19 _ hy)) (by rw[X11];omega)
   refine⟨m',b',?_,fun j=>?_⟩
   ·show body (fun s=>An K body t (i+1) s) x i (m,b)=_
    rw[hb _ x i m b (hx x (by simp)) (by omega)]
    exact e
   rw[h j,Go.AX.mget_mset]
   by_cases hj:j=k
   ·subst hj
    by_cases ht:t=[]
    ·subst ht;simp
    simp[ht,List.flatMap_cons]
   simp[hj]
 obtain⟨m',b',e,h⟩:=key l 0 m [] (fun _ h=>h) (by simpa using hN)
 rw[e]
 exact hK m' b' fun j=>by rw[h j,List.nil_append]
theorem dQ {a:JAE}{m:List (Int×List UInt8)}{ρ:Type}{K:List JAA->Option ρ}(hO:a.Other.length<=1000000)(hd :∀x∈a.Other,x.Data.length<=1000000)(hg :∀k b,G a k=some b->b.length<=1000000)
  (hm :∀k,BB m k=G a k) :
  AI (τ:=(List JAA)) (fun k67=>
   A2 (σ:=Int×(List JAA)) (fun next68 p=>match p with
    | (v69,v70)=>if (decide (v69<256))=true then
     AI (τ:=(List JAA)) (fun k71=>
      Option.bind (some (Option.getD (BB m v69) [])) fun v72=>
      Option.bind (some (Option.isSome (BB m v69))) fun v73=>
      AI (τ:=(List JAA)) (fun k74=>
       if v73=true then
        Option.bind (Bc v69) fun v75=>
        Option.bind (apnd (α:=UInt8) 1 [] v72) fun _=>
        Option.bind (apnd (α:=JAA) 40 v70 ([(⟨v75,v69,v72⟩:JAA)]:List JAA)) fun v76=>
        k74 v76
       else
        k74 v70
      ) fun v77=>
      AI (τ:=(List JAA)) (fun k78=>
       An (σ:=(List JAA)) (fun v79=>
        k78 v79
       ) (fun next80 (x81:JAA) i82 v79=>
        AI (τ:=(List JAA)) (fun k83=>
         if (x81.Type_==v69)=true then
          Option.bind (apnd (α:=UInt8) 1 [] x81.Data) fun _=>
          Option.bind (apnd (α:=JAA) 40 v79 ([{ x81 with Type_:=v69 }]:List JAA)) fun v84=>
          k83 v84
         else
          k83 v79
        ) fun v85=>
        next80 v85
       ) a.Other 0 v77
      ) fun v86=>
      k71 v86
     ) fun v87=>
     next68 ((AN (v69+1)),v87)
    else
     k67 v70
   ) fuel (0,[])
  ) K=K (wrS a):=by
 rw[AH]
 refine (DU (fun s:Int×List JAA=>∃k:Nat,s.1=k/\k<=256/\s.2.length<=k*1000001) (fun s=>(256-s.1).toNat) (fun s=>K (s.2++(List.range' s.1.toNat (256-s.1.toNat)).flatMap fun (k:Nat)=>ent a k++ofK a.Other k)) ?_ fuel (0,[]) ⟨0,rfl,by omega,by simp⟩ (BY (by simp only;omega))).trans rfl
 rintro next ⟨kk,v⟩ ⟨k,rfl,hk2,hv⟩ hn
 dsimp only at hv ⊢
 by_cases hk:k<256
 ·rw[if_pos (by simp only[decide_eq_true_eq];omega),AH,AC,AC,hm]
  have he:=Gv a k
  have hent :∀q:List JAA->Option ρ,AI (τ:=(List JAA)) (fun k74=>
       if (G a k).isSome=true then
        Option.bind (Bc k) fun v75=>
        Option.bind (apnd (α:=UInt8) 1 [] ((G a k).getD [])) fun _=>
        Option.bind (apnd (α:=JAA) 40 v ([(⟨v75,k,((G a k).getD [])⟩:JAA)]:List JAA)) fun v76=>
        k74 v76
       else
        k74 v
      ) q=q (v++ent a k):=by
   intro q
   rw[AH]
   unfold ent
   cases hG:G a k with
   | none=>rw[if_neg (by decide),List.append_nil]
   | some b=>
    have:=hg k b hG
    rw[if_pos (show (some b).isSome=true from rfl),KF,AC,Option.getD_some,AP (by decide) (by simp;omega),AC,AP (by decide) (by simp;omega),AC]
  rw[hent,AH]
  have hlen:=bH a.Other k
  refine (RS (g:=fun x:JAA=>if (x.Type_==(k:Int))=true then [x] else []) (N:=(k+1)*1000001) (by unfold ofK at hlen;rw[X11];omega) fun next2 x i w hx hw=>?_).trans ?_
  ·rw[AH]
   by_cases hc:(x.Type_==(k:Int))=true
   ·rw[if_pos hc] at hw
    have:=hd x hx
    simp only[X22] at hw
    rw[if_pos hc,if_pos hc,AP (by decide) (by simp;omega),AC,AP (by decide) (by simp;omega),AC]
    have e:x.Type_=(k:Int):=by simpa using hc
    rw[<- e]
   rw[if_neg hc,if_neg hc,List.append_nil]
  show next (AN ((k:Int)+1),v++ent a k++ofK a.Other k)=_
  rw[AO (by omega),hn _ ⟨k+1,by simp,by omega,by simp only[X11];omega⟩ (by simp only;omega)]
  have e1:((k:Int)+1).toNat=k+1:=by omega
  have e2:256-k=(256-(k+1))+1:=by omega
  simp only[e1,Int.toNat_natCast]
  rw[e2,List.range'_succ,List.flatMap_cons,List.append_assoc,List.append_assoc,List.append_assoc]
 rw[if_neg (by simp only[decide_eq_true_eq];omega)]
 have:256-(k:Int).toNat=0:=by omega
 rw[this]
 simp
structure VA (a:JAE):Prop where
 O:Dm a.Other=true
 o:-1<=a.Origin/\a.Origin<=2
 p:GX a.Path=true
 n:a.Next.ok=true
 m:-1<=a.MED/\a.MED<=4294967295
 r:-1<=a.Pref/\a.Pref<=4294967295
 t:a.OTC=-1\/(1<=a.OTC/\a.OTC<=4294967295)
 c:Ee a.Communities=true
 l:Ef a.JAF=true
 e:a.Other.length<=8
theorem Ju {a:JAE}:Gq a=true↔VA a:=by
 unfold Gq MH
 simp only[X27,Bool.or_eq_true,decide_eq_true_eq]
 constructor
 ·rintro⟨h1,h2,h3,h4,h5,h6,h7,h8,h9,h10⟩
  exact⟨h1,h2,h3,h4,h5,h6,h7,h8,h9,h10⟩
 rintro⟨h1,h2,h3,h4,h5,h6,h7,h8,h9,h10⟩
 exact⟨h1,h2,h3,h4,h5,h6,h7,h8,h9,h10⟩
theorem IT {p:List JAC}(h:GX p=true):p.length<=tot p/\tot p<=64:=by
 unfold GX at h
 simp only[X27,List.all_eq_true,decide_eq_true_eq] at h
 refine⟨?_,h.2⟩
 have h1:=h.1.1
 clear h
 induction p with
 | nil=>exact Nat.le_refl _
 | cons s t ih=>
  rw[EX,X12]
  have h2:=ih fun x hx=>h1 x (X19 _ hx)
  have h3:=h1 s (by simp)
  simp only[TG,X27,decide_eq_true_eq] at h3
  omega
theorem VA.sm {a:JAE}(v:VA a):SmT a:=by
 obtain⟨h1,h2⟩:=IT v.p
 have h3:=(Fq.1 v.c).2.2
 have h4:=(Fh.1 v.l).2.2
 have h5:=v.e
 exact⟨by omega,by omega,by omega,by omega,by omega,fun u hu=>by have:=(Hh v.O hu).2.2.2.2;omega⟩
theorem cE {a:JAE}(v:VA a){k:Int}{b:List UInt8}(h:G a k=some b):b.length<=768:=by
 obtain⟨h1,h2⟩:=IT v.p
 have h3:=(Fq.1 v.c).2.2
 have h4:=(Fh.1 v.l).2.2
 unfold G at h
 split at h
 ·split at h
  ·obtain rfl:=X25 h;simp
  cases h
 split at h
 ·split at h
  ·obtain rfl:=X25 h;rw[Oo];omega
  cases h
 split at h
 ·split at h
  ·obtain rfl:=X25 h;simp[b4]
  cases h
 split at h
 ·split at h
  ·obtain rfl:=X25 h;rw[Uc];omega
  cases h
 split at h
 ·split at h
  ·obtain rfl:=X25 h;rw[Uc];omega
  cases h
 split at h
 ·split at h
  ·obtain rfl:=X25 h;rw[Oj];omega
  cases h
 split at h
 ·split at h
  ·obtain rfl:=X25 h;rw[OU];omega
  cases h
 split at h
 ·split at h
  ·obtain rfl:=X25 h;rw[Uc];omega
  cases h
 cases h
theorem SI {a:JAE}(v:VA a):FA a=some (wrS a,0):=by
 have hs:=IT v.p
 have hc:=(Fq.1 v.c).2.2
 have hl:=(Fh.1 v.l).2.2
 unfold FA
 rw[OI v.sm,AC,Ju.2 v,if_neg (by decide)]
 have p0:Puts [] a []:=⟨fun k=>by simp[BB]⟩
 rw[I3]
 have p1:Puts (if decide (a.Origin ≥ 0)=true then CW ([]:List (Int×List UInt8)) (1:Int) [Ao a.Origin] else []) a [1]:=by
  by_cases h:a.Origin ≥ 0
  ·rw[if_pos (by simpa using h)]
   exact p0.add 1 (by unfold G;rw[if_pos rfl,if_pos (by omega)])
  rw[if_neg (by simpa using h)]
  exact p0.skip 1 (by unfold G;rw[if_pos rfl,if_neg (by have:=v.o;omega)])
 generalize (if decide (a.Origin ≥ 0)=true then CW ([]:List (Int×List UInt8)) (1:Int) [Ao a.Origin] else [])=m1 at p1
 rw[I3]
 have eb:(if decide (a.Origin ≥ 0)=true then true else (cond false true (decide ((a.Path.length:Int) > 0))))=decide (a.Origin≠-1\/a.Path≠[]):=by
  have:=v.o
  have e:(a.Path≠[])↔0<a.Path.length:=List.length_pos_iff.symm
  by_cases h:a.Origin ≥ 0
  ·rw[if_pos (by simpa using h),decide_eq_true (.inl (by omega))]
  rw[if_neg (by simpa using h),cond_false]
  have h1:a.Origin=-1:=by omega
  have e2:(a.Origin≠-1\/a.Path≠[])↔0<a.Path.length:=by rw[e];omega
  rw[X28,decide_eq_true_eq,decide_eq_true_eq,e2]
  omega
 rw[eb,AH]
 have step2 :∃m2,Puts m2 a [2,1]/\∀(ρ:Type) (q:List (Int×List UInt8)->Option ρ),(if decide (a.Origin≠-1\/a.Path≠[])=true then q (CW m1 2 (LR a.Path)) else q m1)=q m2:=by
  by_cases h:a.Origin≠-1\/a.Path≠[]
  ·exact⟨_,p1.add 2 (by unfold G;rw[if_neg (by decide),if_pos rfl,if_pos h]),fun ρ q=>by rw[if_pos (by simpa using h)]⟩
  exact⟨_,p1.skip 2 (by unfold G;rw[if_neg (by decide),if_pos rfl,if_neg h]),fun ρ q=>by rw[if_neg (by simpa using h)]⟩
 rw[Z3 (by omega)]
 obtain⟨m2,p2,e2⟩:=step2
 refine (e2 _ (WR3 a)).trans ?_
 unfold WR3
 have en :∀{ρ:Type} (q:Bool->Option ρ),AI (τ:=Bool) (fun k27=>if (!(Addr.eqd a.Next (⟨false,(0:UInt64),(0:UInt64)⟩:Addr)))=true then k27 (cond true (!a.Next.V6) false) else k27 false) q=q (Hf a):=by
  intro ρ q
  rw[AH]
  unfold Hf
  cases a.Next.V6<;>cases Addr.eqd a.Next ⟨false,0,0⟩<;>rfl
 refine (en _).trans ?_
 rw[AH]
 have step3 :∃m3,Puts m3 a [3,2,1]/\∀(ρ:Type) (q:List (Int×List UInt8)->Option ρ),(if Hf a=true then Option.bind (Ba a.Next) fun v30=>q (CW m2 3 v30) else q m2)=q m3:=by
  by_cases h:Hf a=true
  ·have h6:a.Next.V6=false:=by
    unfold Hf at h
    cases h6:a.Next.V6
    ·rfl
    rw[h6] at h;simp at h
   exact⟨_,p2.add 3 (by unfold G;rw[if_neg (by decide),if_neg (by decide),if_pos rfl,if_pos h]),fun ρ q=>by rw[if_pos h,YV v.n h6,AC]⟩
  exact⟨_,p2.skip 3 (by unfold G;rw[if_neg (by decide),if_neg (by decide),if_pos rfl,if_neg h]),fun ρ q=>by rw[if_neg h]⟩
 obtain⟨m3,p3,e3⟩:=step3
 refine (e3 _ (WR4 a)).trans ?_
 unfold WR4
 rw[AH]
 have step4 :∃m4,Puts m4 a [4,3,2,1]/\∀(ρ:Type) (q:List (Int×List UInt8)->Option ρ),(if decide (a.MED ≥ 0)=true then Option.bind (AS a.MED 4) fun v33=>q (CW m3 4 v33) else q m3)=q m4:=by
  have:=v.m
  by_cases h:a.MED ≥ 0
  ·exact⟨_,p3.add 4 (by unfold G;rw[if_neg (by decide),if_neg (by decide),if_neg (by decide),if_pos rfl,if_pos (by omega)]),fun ρ q=>by rw[if_pos (by simpa using h),QV,AC]⟩
  exact⟨_,p3.skip 4 (by unfold G;rw[if_neg (by decide),if_neg (by decide),if_neg (by decide),if_pos rfl,if_neg (by omega)]),fun ρ q=>by rw[if_neg (by simpa using h)]⟩
 obtain⟨m4,p4,e4⟩:=step4
 refine (e4 _ (WR5 a)).trans ?_
 unfold WR5
 rw[AH]
 have step5 :∃m5,Puts m5 a [5,4,3,2,1]/\∀(ρ:Type) (q:List (Int×List UInt8)->Option ρ),(if decide (a.Pref ≥ 0)=true then Option.bind (AS a.Pref 4) fun v33=>q (CW m4 5 v33) else q m4)=q m5:=by
  have:=v.r
  by_cases h:a.Pref ≥ 0
  ·exact⟨_,p4.add 5 (by unfold G;rw[if_neg (by decide),if_neg (by decide),if_neg (by decide),if_neg (by decide),if_pos rfl,if_pos (by omega)]),fun ρ q=>by rw[if_pos (by simpa using h),QV,AC]⟩
  exact⟨_,p4.skip 5 (by unfold G;rw[if_neg (by decide),if_neg (by decide),if_neg (by decide),if_neg (by decide),if_pos rfl,if_neg (by omega)]),fun ρ q=>by rw[if_neg (by simpa using h)]⟩
 obtain⟨m5,p5,e5⟩:=step5
 refine (e5 _ (WR8 a)).trans ?_
 unfold WR8
 have ck8:chk ((BB m5 8).isNone=true)=some ():=by
  have hn:BB m5 8=none:=by rw[p5.h,if_neg (by decide)]
  unfold chk
  rw[hn]
  rfl
 rw[AH,ck8,AC]
 refine eX (w:=J9) (k:=8) (N:=1000000) (l:=a.Communities) (by rw[Oj];omega) (fun next x i m b _ hb=>by
  rw[OV] at hb
  dsimp only
  rw[cF,AC,AP (by decide) (by simp[w2];omega),AC,cF,AC,AP (by decide) (by simp[w2];omega),AC,List.append_assoc]
  rfl) fun m8 b8 h8=>?_
 have p8:Puts m8 a [8,5,4,3,2,1]:=⟨fun j=>by
  rw[h8 j,p5.h]
  by_cases hj:j=8
  ·subst hj
   have:G a 8=if a.Communities≠[] then some (a.Communities.flatMap J9) else none:=rfl
   simp[this]
  simp[hj]⟩
 dsimp only
 have ck32:chk ((BB m8 32).isNone=true)=some ():=by
  have hn:BB m8 32=none:=by rw[p8.h,if_neg (by decide)]
  unfold chk
  rw[hn]
  rfl
 rw[AH,ck32,AC]
 refine eX (w:=Ig) (k:=32) (N:=1000000) (l:=a.JAF) (by rw[OU];omega) (fun next x i m b _ hb=>by
  rw[Lx] at hb
  dsimp only
  rw[QV,AC,AP (by decide) (by simp[w4];omega),AC,QV,AC,AP (by decide) (by simp[w4];omega),AC,QV,AC,AP (by decide) (by simp[w4];omega),AC,List.append_assoc,List.append_assoc]
  rfl) fun m9 b9 h9=>?_
 have p9:Puts m9 a [32,8,5,4,3,2,1]:=⟨fun j=>by
  rw[h9 j,p8.h]
  by_cases hj:j=32
  ·subst hj
   have:G a 32=if a.JAF≠[] then some (a.JAF.flatMap Ig) else none:=rfl
   simp[this]
  simp[hj]⟩
 dsimp only
 rw[AH]
 have step35 :∃m10,Puts m10 a [35,32,8,5,4,3,2,1]/\∀(ρ:Type) (q:List (Int×List UInt8)->Option ρ),(if decide (a.OTC ≥ 0)=true then Option.bind (AS a.OTC 4) fun v33=>q (CW m9 35 v33) else q m9)=q m10:=by
  have:=v.t
  have hG:G a 35=if a.OTC≠-1 then some (w4 a.OTC) else none:=rfl
  by_cases h:a.OTC ≥ 0
  ·exact⟨_,p9.add 35 (by rw[hG,if_pos (by omega)]),fun ρ q=>by rw[if_pos (by simpa using h),QV,AC]⟩
  exact⟨_,p9.skip 35 (by rw[hG,if_neg (by omega)]),fun ρ q=>by rw[if_neg (by simpa using h)]⟩
 obtain⟨m10,p10,e10⟩:=step35
 refine (e10 _ (WRk a)).trans ?_
 unfold WRk
 refine (dQ (a:=a) (by have:=v.e;omega) (fun x hx=>by have:=(Hh v.O hx).2.2.2.2;omega) (fun k b h=>by have:=cE v h;omega) fun k=>?_).trans rfl
 rw[p10.h]
 split
 ·rfl
 rename_i hk
 simp only[List.mem_cons,List.not_mem_nil,or_false,not_or] at hk
 unfold G
 rw[if_neg hk.2.2.2.2.2.2.2,if_neg hk.2.2.2.2.2.2.1,if_neg hk.2.2.2.2.2.1,if_neg hk.2.2.2.2.1,if_neg hk.2.2.2.1,if_neg hk.2.2.1,if_neg hk.2.1,if_neg hk.1]
theorem aZ {v:List JAA}{k f:Int}{d:List UInt8}{c:Bool}{ρ:Type}{K:List JAA->Option ρ}(hf:fl k=f)(hv:v.length<=1000000) :
  AI (τ:=(List JAA)) (fun k33=>
   AI (τ:=(List JAA)) (fun k34=>
    if c=true then
     Option.bind (some (Option.getD (BB Bl k) 0)) fun v35=>
     Option.bind (apnd (α:=JAA) 40 v ([(⟨v35,k,d⟩:JAA)]:List JAA)) fun v36=>
     k34 v36
    else
     k34 v
   ) fun v37=>
   k33 v37
  ) K=K (v++if c=true then [⟨fl k,k,d⟩] else []):=by
 rw[AH,AH,LA]
 cases c
 ·rw[if_neg (by decide),if_neg (by decide),List.append_nil]
 rw[if_pos rfl,if_pos rfl,AC,AP (by decide) (by simp;omega),AC]
theorem YH (a b:JAA):C5 a b=some (FU (HI a) (HI b)):=QJ a b
def On:List Int:=[1,2,3,4,5,8,32,35]
def PZ (a:JAE):List JAA:=On.flatMap (ent a)++a.Other
theorem Yt {a:JAE}{k:Int}{y:JAA}(h:y∈ent a k):k∈On:=by
 obtain⟨b,hb,_⟩:=I5.1 h
 rcases FY k with ⟨e,_⟩|⟨e,_⟩|⟨e,_⟩|⟨e,_⟩|⟨e,_⟩|⟨e,_⟩|⟨e,_⟩|⟨e,_⟩|e
 iterate 8 (subst e;decide)
 rw[QF e.2.2.2.2.2.2.2.2] at hb;cases hb
theorem Z6 {a:JAE}{y:JAA}:y∈PZ a↔(∃k,y∈ent a k)\/y∈a.Other:=by
 unfold PZ
 rw[X23,List.mem_flatMap]
 exact⟨fun h=>h.imp_left fun ⟨k,_,h⟩=>⟨k,h⟩,fun h=>h.imp_left fun ⟨k,h⟩=>⟨k,Yt h,h⟩⟩
theorem YW {a:JAE}(hO:Dm a.Other=true):(PZ a).Pairwise fun x y=>HI x≠HI y:=by
 unfold PZ
 have hk :∀{x y:JAA},x.Type_≠y.Type_->HI x≠HI y:=fun h e=>h (by simpa[HI] using e)
 refine List.pairwise_append.2 ⟨?_,(Nz hO).imp fun {x y} h=>hk (by simp only[ltT,decide_eq_true_eq] at h;omega),fun x hx y hy=>hk fun e=>?_⟩
 ·rw[List.pairwise_flatMap]
  refine⟨fun k _=>?_,?_⟩
  ·unfold ent
   split
   ·exact List.pairwise_singleton _ _
   exact .nil
  have:On.Pairwise (·≠·):=by decide
  exact this.imp fun {k j} h x hx y hy=>hk (by rw[NY hx,NY hy];exact h)
 obtain⟨k,_,hx⟩:=List.mem_flatMap.1 hx
 obtain⟨b,hb,_⟩:=I5.1 hx
 have:=Z9 (Hh hO hy).1
 rw[<- e,NY hx] at this
 rw[QF this] at hb;cases hb
theorem SH {a:JAE}(hO:Dm a.Other=true)(hl:(PZ a).length<=1000000):EM C5 (PZ a)=some (wrS a):=by
 obtain⟨r,h1,h2,h3⟩:=MS GQ YH (l:=PZ a) (by omega)
 rw[h1]
 congr 1
 refine Tn GQ (N6 GQ h3 ?_) (N3 hO) fun x=>?_
 ·exact (h2.pairwise_iff fun h e=>h e.symm).2 (YW hO)
 rw[h2.mem_iff,Z6,XD hO]
theorem cg {l:List JAA}(hl:l.length<=1000)(hd :∀x∈l,x.Data.length<=1000000){v:List JAA}(hv:v.length<=1000){ρ:Type}{K:List JAA->Option ρ} :
  AI (τ:=(List JAA)) (fun k67=>
   An (σ:=(List JAA)) (fun v68=>
    k67 v68
   ) (fun next69 (x70:JAA) i71 v68=>
    Option.bind (A5 x70.Data) fun v72=>
    Option.bind (apnd (α:=JAA) 40 v68 ([{ x70 with Data:=v72 }]:List JAA)) fun v73=>
    next69 v73
   ) l 0 v
  ) K=K (v++l):=by
 rw[AH]
 have e:l.flatMap (fun x=>[x])=l:=by simp
 refine (RS (g:=fun x:JAA=>[x]) (N:=100000) (by rw[e];omega) fun next x i w hx hw=>?_).trans (by rw[e])
 have:=hd x hx
 simp only[X22] at hw
 unfold A5
 rw[AP (by decide) (by simp;omega),AC,AC,List.nil_append,AP (by decide) (by simp;omega),AC]
theorem RN (a:JAE):(On.flatMap (ent a)).length<=8:=KG (Gv a) On
theorem UQ {b:List UInt8}{x y:Int}(hb:b.length<=1000000):Ok (G6 b x y) fun r=>r.length<=b.length+1:=by
 unfold G6
 refine .bind (Ok.apnd (by decide) (by simp;omega)) fun _ _=>.ite (fun _=>.ret (by simp)) fun h=>?_
 have hpos:0<b.length:=by
  cases b with
  | nil=>simp at h
  | cons z t=>simp
 refine .bind (IA (by omega)) fun k hk=>.bind (IA (by omega)) fun q _=>?_
 refine .ite (fun _=>?_) fun _=>.ite (fun _=>?_) fun _=>.ite (fun _=>?_) fun _=>?_
 ·exact .bind (.geti (by omega)) fun _ _=>.bind (.seti (by omega)) fun r hr=>.ret (by omega)
 ·rw[AO (x:=k+1) (by omega)]
  refine .bind (Ok.chk (by omega)) fun _ _=>.bind (Ok.chk (by omega)) fun _ _=>.bind (Ok.apnd (by decide) (by simp only[X18,X17];omega)) fun r hr=>.ret ?_
  rw[hr]
  simp only[X11,X18,X17]
  omega
 ·refine .bind (Ok.chk (by omega)) fun _ _=>.bind (Ok.apnd (by decide) (by simp only[X13,X18,X17];omega)) fun _ _=>.bind (Ok.apnd (by decide) (by simp only[X18,X17,X22];omega)) fun r hr=>.bind (Ok.chk (by omega)) fun _ _=>.bind (Ok.apnd (by decide) (by rw[hr];simp only[X11,X18,X17,X22];omega)) fun s hs=>.ret ?_
  rw[hs,hr]
  simp only[X11,X18,X17,X22]
  omega
 refine .bind (.part (by omega)) fun r hr=>.ret ?_
 omega
theorem Of {a:JAE}(v:VA a):(wrS a).length<=16:=by
 have h:=Gh (SH v.O (by unfold PZ;rw[X11];have:=RN a;have:=v.e;omega))
 rw[h]
 unfold PZ
 rw[X11]
 have:=RN a
 have:=v.e
 omega
theorem P2 {a:JAE}(v:VA a){x:JAA}(h:x∈wrS a):x.Data.length<=768:=by
 rcases (XD v.O).1 h with ⟨k,h⟩|h
 ·obtain⟨b,hb,rfl⟩:=I5.1 h
  exact cE v hb
 have:=(Hh v.O h).2.2.2.2
 omega
theorem ct (l:List Int):NF l=some ⟨l,0⟩:=rfl
theorem bU {h l:UInt64}(hh:h.toNat=0)(hl:l.toNat<72057594037927936):(AW ((BitVec.ofInt 64 ((AW ((h.toNat:Int)*(2^(min (Int.toNat 8) 64)))).toNat:Int) ||| BitVec.ofInt 64 ((AW (Int.fdiv (l.toNat:Int) (2^(min (Int.toNat 56) 64)))).toNat:Int)).toNat:Int))=0:=by
 have e1:Int.fdiv (l.toNat:Int) (2^(min (Int.toNat 56) 64))=((l.toNat/2^(min 56 64):Nat):Int):=fd l.toNat 56
 have e2:l.toNat/2^(min 56 64)=0:=Nat.div_eq_of_lt hl
 rw[e1,e2,hh]
 have e3:(((0:Nat):Int)*(2^(min (Int.toNat 8) 64)))=((0:Nat):Int):=by simp
 rw[e3,BP]
 rfl
def W8 (v4:Addr)(x6:UInt8):Addr:=⟨v4.V6,(AW ((BitVec.ofInt 64 ((AW ((v4.Hi.toNat:Int)*(2^(min (Int.toNat 8) 64)))).toNat:Int) ||| BitVec.ofInt 64 ((AW (Int.fdiv (v4.Lo.toNat:Int) (2^(min (Int.toNat 56) 64)))).toNat:Int)).toNat:Int)),(AW ((BitVec.ofInt 64 ((AW ((v4.Lo.toNat:Int)*(2^(min (Int.toNat 8) 64)))).toNat:Int) ||| BitVec.ofInt 64 ((AW (x6.toNat:Int)).toNat:Int)).toNat:Int))⟩
theorem P3 {m:Nat}(hm:m<16777216)(x:UInt8):W8 ⟨false,0,UInt64.ofNat m⟩ x=⟨false,0,UInt64.ofNat (m*256+x.toNat)⟩:=by
 have e:(UInt64.ofNat m).toNat=m:=by rw[UInt64.toNat_ofNat'];omega
 unfold W8
 dsimp only
 rw[bU rfl (by omega),Tv (by omega) x.toNat_lt,e]
def okJ (x:JAA):Bool:=decide (0<=x.Flags)&&(decide (x.Flags<=255)&&(decide (0<=x.Type_)&&(decide (x.Type_<=255)&&decide ((x.Data.length:Int)<=65535))))
def hdB (x:JAA):List UInt8:=if decide ((x.Data.length:Int) > 255)=true then ([(Ao ((BitVec.ofInt 8 ((Ao ((BitVec.ofInt 8 ((Ao x.Flags).toNat:Int) &&& BitVec.ofInt 8 224).toNat:Int)).toNat:Int) ||| BitVec.ofInt 8 16).toNat:Int)),(Ao x.Type_),(Ao (Int.fdiv (x.Data.length:Int) (2^(min (Int.toNat 8) 64)))),(Ao (x.Data.length:Int))]:List UInt8)
 else ([(Ao ((BitVec.ofInt 8 ((Ao x.Flags).toNat:Int) &&& BitVec.ofInt 8 224).toNat:Int)),(Ao x.Type_),(Ao (x.Data.length:Int))]:List UInt8)
def PY (x:JAA):List UInt8:=hdB x++x.Data
def F7 (l:List JAA):List UInt8:=l.flatMap PY
def Dc (l:List JAA):List UInt8×Int:=if l.all okJ=true then (if (F7 l).length > 2048 then ([],3) else (F7 l,0)) else ([],1)
theorem Qc (x:JAA):(PY x).length<=x.Data.length+4:=by
 unfold PY hdB
 rw[X11]
 split<;>simp<;>omega
theorem Tc {N:Nat} :∀{l:List JAA},(∀x∈l,x.Data.length<=N)->(F7 l).length<=l.length*(N+4)
 | [],_=>by simp[F7]
 | x::t,h=>by
  have ih:=Tc (l:=t) fun y hy=>h y (X19 _ hy)
  have h1:=Qc x
  have h2:=h x (by simp)
  unfold F7 at ih ⊢
  rw[List.flatMap_cons,X11,X12,X32]
  omega
theorem aO {x:JAA}{v:List UInt8}{ρ:Type}{K:List UInt8->Option ρ}(hv:v.length+4<=1000000000) :
  AI (τ:=(List UInt8)) (fun k12=>
    if (decide ((x.Data.length:Int) > 255))=true then
     Option.bind (apnd (α:=UInt8) 1 v ([(Ao ((BitVec.ofInt 8 ((Ao ((BitVec.ofInt 8 ((Ao x.Flags).toNat:Int) &&& BitVec.ofInt 8 224).toNat:Int)).toNat:Int) ||| BitVec.ofInt 8 16).toNat:Int)),(Ao x.Type_),(Ao (Int.fdiv (x.Data.length:Int) (2^(min (Int.toNat 8) 64)))),(Ao (x.Data.length:Int))]:List UInt8)) fun v13=>
     k12 v13
    else
     Option.bind (apnd (α:=UInt8) 1 v ([(Ao ((BitVec.ofInt 8 ((Ao x.Flags).toNat:Int) &&& BitVec.ofInt 8 224).toNat:Int)),(Ao x.Type_),(Ao (x.Data.length:Int))]:List UInt8)) fun v14=>
     k12 v14
   ) K=K (v++hdB x):=by
 rw[AH]
 unfold hdB
 split
 ·rw[AP (by decide) (by simp;omega),AC]
 rw[AP (by decide) (by simp;omega),AC]
theorem Vz {l:List JAA}(h1:l.length<=1000)(h2 :∀x∈l,x.Data.length<=100000):Gu l=some (Dc l):=by
 have hlen:=Tc h2
 have hlen2:l.length*(100000+4)<=1000*100004:=X31 _ h1
 unfold Gu Dc
 rw[AH]
 refine (ZD (g:=okJ) (r0:=some ([],1)) fun next x i _=>?_).trans ?_
 ·have e:okJ x=!(decide (x.Flags<0) || (decide (x.Flags > 255) || (decide (x.Type_<0) || (decide (x.Type_ > 255) || decide ((x.Data.length:Int) > 65535))))):=by
   unfold okJ
   rw[X28]
   simp only[X27,Bool.not_eq_true',Bool.or_eq_false_iff,decide_eq_true_eq,decide_eq_false_iff_not]
   omega
  rw[AH,e]
  cases decide (x.Flags < 0)<;>cases decide (x.Flags > 255)<;>cases decide (x.Type_ < 0)<;>cases decide (x.Type_ > 255)<;>cases decide ((x.Data.length:Int) > 65535)<;>rfl
 cases ha:l.all okJ
 ·rfl
 rw[cond_true,if_pos rfl,AH]
 refine (RS (g:=PY) (N:=999999990) (by show [].length+(F7 l).length<=_;simp only[X13];omega) fun next x i v hx hv=>?_).trans ?_
 ·unfold PY at hv ⊢
  rw[X11] at hv
  have hh:(hdB x).length<=4/\3<=(hdB x).length:=by unfold hdB;split<;>simp
  rw[aO (by omega),AP (by decide) (by rw[X11];omega),AC,List.append_assoc]
 show (if decide (((F7 l).length:Int) > 2048)=true then _ else _)=_
 by_cases hc:(F7 l).length > 2048
 ·rw[if_pos (by simp only[decide_eq_true_eq];omega),if_pos hc]
 rw[if_neg (by simp only[decide_eq_true_eq];omega),if_neg hc]
 rfl
theorem Yf {l:List JAA}(h1:l.length<=1000)(h2 :∀x∈l,x.Data.length<=100000):E1 l=some (Dc l):=by
 unfold E1 Dc
 rw[AH]
 refine (ZD (g:=okJ) (r0:=some ([],1)) fun next x i _=>?_).trans ?_
 ·have e:okJ x=((decide (0<=x.Flags)&&decide (x.Flags<=255))&&((decide (0<=x.Type_)&&decide (x.Type_<=255))&&!decide ((x.Data.length:Int) > 65535))):=by
   unfold okJ
   rw[X28]
   simp only[X27,Bool.not_eq_true',decide_eq_true_eq,decide_eq_false_iff_not]
   omega
  rw[AH,e,GH,AC,GH]
  cases decide (0<=x.Flags)<;>cases decide (x.Flags<=255)<;>cases decide (0<=x.Type_)<;>cases decide (x.Type_<=255)<;>cases decide ((x.Data.length:Int) > 65535)<;>rfl
 cases ha:l.all okJ
 ·rfl
 rw[cond_true,if_pos rfl,AH]
 have key :∀(K:List UInt8->Option (List UInt8×Int)) (body:(List UInt8->Option (List UInt8×Int))->JAA->Nat->List UInt8->Option (List UInt8×Int)),(∀next x i v,v.length<=2048->x.Data.length<=100000->body next x i v=if (v++PY x).length > 2048 then some ([],3) else next (v++PY x))->
   ∀(t:List JAA) (i:Nat) (v:List UInt8),(∀x∈t,x.Data.length<=100000)->v.length<=2048->An K body t i v=if (v++F7 t).length > 2048 then some ([],3) else K (v++F7 t):=by
  intro K body hb t
  induction t with
  | nil=>
   intro i v _ hv
   have e:v++F7 []=v:=by simp[F7]
   rw[e,if_neg (by omega)]
   rfl
  | cons x t ih=>
   intro i v hx hv
   show body (fun s=>An K body t (i+1) s) x i v=_
   have e:v++F7 (x::t)=(v++PY x)++F7 t:=by
    unfold F7
    rw[List.flatMap_cons,List.append_assoc]
   rw[hb _ x i v hv (hx x (by simp)),e]
   by_cases hc:(v++PY x).length > 2048
   ·rw[if_pos hc,if_pos (by rw[X11];omega)]
   rw[if_neg hc,ih (i+1) _ (fun y hy=>hx y (X19 _ hy)) (by omega)]
 refine (key _ _ (fun next x i v hv hd=>?_) l 0 [] h2 (by simp)).trans ?_
 ·have hh:(hdB x).length<=4:=by unfold hdB;split<;>simp
  unfold PY
  rw[aO (by omega),AP (by decide) (by rw[X11];omega),AC,List.append_assoc]
  by_cases hc:(v++(hdB x++x.Data)).length > 2048
  ·rw[if_pos (by simp only[decide_eq_true_eq];omega),if_pos hc]
  rw[if_neg (by simp only[decide_eq_true_eq];omega),if_neg hc]
 rw[List.nil_append]
 split<;>rfl
theorem ac (b:List UInt8):JR b=some (decide ((b.length:Int)<=600)):=rfl
theorem OA {l:List JAA}:(Dc l).1.length<=2048:=by
 unfold Dc
 split
 ·split
  ·simp
  dsimp only;omega
 simp
theorem YU {d:List UInt8}(h:d.length=4):(addrOf d).ok=true:=by
 match d,h with
 | [a,b,c,e],_=>
  have h1 :∀K:Addr->Option (Addr×Int),An (σ:=Addr) (fun v4=>K v4) (fun next5 x6 _ v4=>next5 (W8 v4 x6)) [a,b,c,e] 0 ⟨false,0,UInt64.ofNat 0⟩=K ⟨false,0,UInt64.ofNat (val [a,b,c,e])⟩:=by
   intro K
   have ha:=a.toNat_lt
   have hb:=b.toNat_lt
   have hc:=c.toNat_lt
   rw[aQ]
   rw[List.foldl_cons,P3 (by omega),List.foldl_cons,P3 (by omega),List.foldl_cons,P3 (by omega),List.foldl_cons,P3 (by omega),List.foldl_nil]
   rfl
  have main:A8 [a,b,c,e]=some (⟨false,0,UInt64.ofNat (val [a,b,c,e])⟩,0):=h1 fun v8=>some (v8,0)
  have hv:=L1 [a,b,c,e]
  simp only[X12,X13] at hv
  unfold addrOf
  rw[main]
  show Addr.ok ⟨false,0,UInt64.ofNat (val [a,b,c,e])⟩=true
  have e2:(UInt64.ofNat (val [a,b,c,e])).toNat=val [a,b,c,e]:=by rw[UInt64.toNat_ofNat'];omega
  have e3:decide (((UInt64.ofNat (val [a,b,c,e])).toNat:Int)<4294967296)=true:=decide_eq_true (by rw[e2];omega)
  unfold Addr.ok
  dsimp only
  rw[e3]
  rfl
structure VB (a:JAE):Prop where
 o:-1<=a.Origin/\a.Origin<=2
 p:GX a.Path=true
 n:a.Next.ok=true
 m:-1<=a.MED/\a.MED<=4294967295
 r:-1<=a.Pref/\a.Pref<=4294967295
 t:a.OTC=-1\/(1<=a.OTC/\a.OTC<=4294967295)
 c:Ee a.Communities=true
 l:Ef a.JAF=true
theorem VB.empty:VB eA:=⟨by decide,rfl,by decide,by decide,by decide,.inl rfl,rfl,rfl⟩
theorem VB.step {a a':JAE}{x:JAA}(v:VB a)(hd:x.Data.length<=1000000)(h:stepS a x=some a'):VB a':=by
 unfold stepS at h
 split at h
 ·obtain rfl:=X25 h
  exact v
 split at h
 rotate_left
 ·cases h
 unfold Ir at h
 split at h
 ·obtain⟨n,hn,rfl⟩:=Option.map_eq_some_iff.1 h
  unfold Na at hn
  split at hn
  ·rename_i hc
   obtain rfl:=X25 hn
   have:0<=GK x.Data:=by rw[HZ (by omega)];omega
   exact⟨⟨by dsimp only;omega,hc.2⟩,v.p,v.n,v.m,v.r,v.t,v.c,v.l⟩
  cases hn
 split at h
 ·obtain⟨n,hn,rfl⟩:=Option.map_eq_some_iff.1 h
  unfold Uf at hn
  cases hq:rdL x.Data [] with
  | none=>rw[hq] at hn;cases hn
  | some p=>
   rw[hq,Option.bind_some] at hn
   have hs:=Zx hd hq
   rw[TJ (by omega) (by omega)] at hn
   split at hn
   ·obtain rfl:=X25 hn
    exact⟨v.o,‹_›,v.n,v.m,v.r,v.t,v.c,v.l⟩
   cases hn
 split at h
 ·obtain⟨n,hn,rfl⟩:=Option.map_eq_some_iff.1 h
  unfold UG at hn
  split at hn
  ·obtain rfl:=X25 hn
   exact⟨v.o,v.p,YU ‹_›,v.m,v.r,v.t,v.c,v.l⟩
  cases hn
 split at h
 ·obtain⟨n,hn,rfl⟩:=Option.map_eq_some_iff.1 h
  unfold rd4 at hn
  split at hn
  ·obtain rfl:=X25 hn
   have:=K1 ‹_›
   exact⟨v.o,v.p,v.n,⟨by dsimp only;omega,by dsimp only;omega⟩,v.r,v.t,v.c,v.l⟩
  cases hn
 split at h
 ·obtain⟨n,hn,rfl⟩:=Option.map_eq_some_iff.1 h
  unfold rd4 at hn
  split at hn
  ·obtain rfl:=X25 hn
   have:=K1 ‹_›
   exact⟨v.o,v.p,v.n,v.m,⟨by dsimp only;omega,by dsimp only;omega⟩,v.t,v.c,v.l⟩
  cases hn
 split at h
 ·obtain⟨n,hn,rfl⟩:=Option.map_eq_some_iff.1 h
  unfold Ue at hn
  split at hn
  ·rename_i hc
   obtain rfl:=X25 hn
   exact⟨v.o,v.p,v.n,v.m,v.r,v.t,Q5 (RI _) (by rw[OS];omega),v.l⟩
  cases hn
 split at h
 ·obtain⟨n,hn,rfl⟩:=Option.map_eq_some_iff.1 h
  unfold NK at hn
  split at hn
  ·rename_i hc
   obtain rfl:=X25 hn
   exact⟨v.o,v.p,v.n,v.m,v.r,v.t,v.c,Qn (OH _ (QP _)) (by rw[L8,G7];omega)⟩
  cases hn
 split at h
 ·obtain⟨n,hn,rfl⟩:=Option.map_eq_some_iff.1 h
  unfold ZX at hn
  split at hn
  ·rename_i hc
   obtain rfl:=X25 hn
   have:=K1 hc.1
   have:=hc.2
   exact⟨v.o,v.p,v.n,v.m,v.r,.inr ⟨by dsimp only;omega,by dsimp only;omega⟩,v.c,v.l⟩
  cases hn
 obtain rfl:=X25 h
 exact v
theorem VB.fold :∀{l:List JAA} {a a':JAE},VB a->(∀x∈l,x.Data.length<=1000000)->IL a l=some a'->VB a'
 | [],a,a',v,_,h=>by
  obtain rfl:=X25 h
  exact v
 | x::t,a,a',v,hd,h=>by
  unfold IL at h
  cases hs:stepS a x with
  | none=>rw[hs] at h;cases h
  | some s=>
   rw[hs,Option.bind_some] at h
   exact (v.step (hd x (by simp)) hs).fold (fun y hy=>hd y (X19 _ hy)) h
theorem Z0 {l:List JAA}(hd:Pm l):Dm (HN l)=true:=by
 unfold Dm
 rw[X27,Hj Tu,List.all_eq_true]
 refine⟨fun y hy=>?_,(MW hd).imp fun {p q} h=>by rw[WN] at h;exact h⟩
 obtain⟨x,_,hk,rfl⟩:=TD.1 hy
 unfold LO at hk
 simp only[X27,decide_eq_true_eq] at hk
 obtain⟨h1,h2,_,h3⟩:=hk
 unfold okO conv
 dsimp only
 rw[h1]
 simp only[Bool.true_and,X27,decide_eq_true_eq]
 exact⟨h2,trivial,h3⟩
theorem W1 {l:List JAA}(h:Sm l):(rdS l).2=12\/(rdS l).2=13\/(rdS l).2=3\/((rdS l).2=0/\VA (rdS l).1):=by
 unfold rdS
 split
 ·exact .inl rfl
 cases hf:IL eA (BH l) with
 | none=>exact .inr (.inl rfl)
 | some a=>
  dsimp only
  split
  ·exact .inr (.inr (.inl rfl))
  have v:=VB.empty.fold (fun x hx=>h.2 x ((DO l).2.1 x hx)) hf
  exact .inr (.inr (.inr ⟨rfl,⟨Z0 (DO l).1,v.o,v.p,v.n,v.m,v.r,v.t,v.c,v.l,by dsimp only;omega⟩⟩))
theorem eQ {b:Bool}{m:Nat}(h:m<2^128):(mkA b m).n=m:=by
 unfold mkA Addr.n
 simp only[UInt64.toNat_ofNat']
 omega
theorem ZH (a:Addr)(n:Nat):a.n/2^(a.w-n)*2^(a.w-n)<=a.n:=Nat.div_mul_le_self _ _
theorem ar {a:Addr}(h:a.ok=true):a.n<2^128:=by
 have:=Addr.n_lt h
 have hw:a.w<=128:=by unfold Addr.w;split<;>omega
 exact Nat.lt_of_lt_of_le this (Nat.pow_le_pow_right (by omega) hw)
theorem ba (m:Nat):(mkA true m).ok=true:=by
 unfold mkA Addr.ok
 simp only[cond_true]
theorem Xv {x y:Bool}(hx:x=true)(hy:y=true):cond false true (cond x y false)=true:=by rw[hx,hy];rfl
theorem ak {m:Nat}(h:m<4294967296):(mkA false m).ok=true:=by
 have e1:m/2^64=0:=Nat.div_eq_of_lt (by omega)
 have e2:(UInt64.ofNat m).toNat=m:=by simp only[UInt64.toNat_ofNat'];omega
 unfold mkA
 rw[e1]
 exact Xv (x:=(((UInt64.ofNat 0).toNat:Int)==0)) (y:=decide (((UInt64.ofNat m).toNat:Int)<4294967296)) (by simp) (decide_eq_true (by rw[e2];omega))
theorem cV {a:Addr}(h:a.ok=true)(n:Nat):(a.cut n).ok=true:=by
 have hc:=ZH a n
 unfold Addr.cut
 cases h6:a.V6
 ·obtain⟨h1,h2⟩:=Addr.ok4 h h6
  have hn:a.n=a.Lo.toNat:=by unfold Addr.n;rw[h1,Nat.zero_mul,Nat.zero_add]
  exact ak (by omega)
 exact ba _
theorem bR {a:Addr}(h:a.ok=true)(n:Nat):(a.cut n).cut n=a.cut n:=by
 have hs:=ar h
 have hc:=ZH a n
 have e1:(a.cut n).n=a.n/2^(a.w-n)*2^(a.w-n):=by unfold Addr.cut;exact eQ (by omega)
 have e2:(a.cut n).w=a.w:=by unfold Addr.w;rw[Tz]
 have e3:(a.cut n).V6=a.V6:=Tz a n
 show mkA (a.cut n).V6 ((a.cut n).n/2^((a.cut n).w-n)*2^((a.cut n).w-n))=mkA a.V6 (a.n/2^(a.w-n)*2^(a.w-n))
 rw[e1,e2,e3,Nat.mul_div_cancel _ (Nat.two_pow_pos _)]
theorem VG {a:Addr}(h:a.ok=true){n:Int}(h0:0<=n)(h1:n<=a.w):CB ⟨a.cut n.toNat,n⟩:=by
 have e2:(a.cut n.toNat).w=a.w:=by unfold Addr.w;rw[Tz]
 exact⟨cV h _,h0,by simp only;rw[e2];exact h1,bR h _⟩
theorem We {six:Bool}{n:UInt8}{t:List UInt8}{p:JAD}{r:List UInt8}(h:KX six n t=some (p,r)):CB p/\p.Addr.V6=six:=by
 unfold KX at h
 split at h
 ·cases h
 rename_i hc
 simp only[X24,X26] at h
 obtain⟨rfl,_⟩:=h
 have h1:¬ 8*pw six<n.toNat:=fun q=>hc (.inl q)
 have h2:¬ t.length<pk n:=fun q=>hc (.inr q)
 obtain⟨_,a2,a3,a4⟩:=G0 (TF h1 h2)
 refine⟨?_,?_⟩
 ·have:=VG a3 (n:=(n.toNat:Int)) (by omega) (by omega)
  rw[Int.toNat_natCast] at this
  exact this
 show ((addrOf (VF six n t)).cut n.toNat).V6=six
 rw[Tz,a2]
theorem U3 (six:Bool) :∀(f:Nat) (b:List UInt8) (acc l:List JAD),pfx six f b acc=some l->(∀p∈acc,CB p/\p.Addr.V6=six)->∀p∈l,CB p/\p.Addr.V6=six
 | f,[],acc,l,h,ha=>by
  rw[P6] at h
  obtain rfl:=X25 h
  exact ha
 | f+1,x::t,acc,l,h,ha=>by
  simp only[pfx] at h
  cases hs:KX six x t with
  | none=>rw[hs] at h;cases h
  | some q=>
   obtain⟨u,r⟩:=q
   rw[hs] at h
   refine U3 six f r _ l h fun p hp=>?_
   rcases X23.1 hp with hp | hp
   ·exact ha p hp
   rw[X14] at hp
   subst hp
   exact We hs
 | 0,_::_,_,_,h,_=>by cases h
theorem K0 {six:Bool}{b:List UInt8}{l:List JAD}(h:IH six b []=some l) :∀p∈l,CB p/\p.Addr.V6=six:=U3 six _ _ _ _ h (by simp)
theorem VO {l:List JAA}{a:Addr}{p:List JAD}(h:Ft l=some (a,p)):(∀q∈p,CB q/\q.Addr.V6=true)/\(p≠[]->a.ok=true/\a.V6=true):=by
 unfold Ft at h
 split at h
 ·simp only[X24,X26] at h
  obtain⟨_,rfl⟩:=h
  exact⟨(fun q hq=>by cases hq),fun q=>absurd rfl q⟩
 ·rename_i x _
  unfold F2 at h
  split at h
  ·rename_i hc
   obtain⟨q,hq,he⟩:=Option.map_eq_some_iff.1 h
   simp only[X26] at he
   obtain⟨rfl,rfl⟩:=he
   have hl16:((x.Data.drop 4).take 16).length=pw true:=by
    show _=16
    simp only[X18,X17]
    omega
   obtain⟨_,a2,a3,_⟩:=G0 hl16
   exact⟨K0 hq,fun _=>⟨a3,a2⟩⟩
  cases h
 cases h
theorem R9 {l:List JAA}{p:List JAD}(h:Da l=some p) :∀q∈p,CB q/\q.Addr.V6=true:=by
 unfold Da at h
 split at h
 ·obtain rfl:=X25 h
  exact fun q hq=>by cases hq
 ·unfold Fe at h
  split at h
  ·exact K0 h
  cases h
 cases h
theorem Wc {a a':JAE}{x:JAA}(h:stepS a x=some a')(ha:a.Next.V6=false):a'.Next.V6=false:=by
 unfold stepS at h
 split at h
 ·obtain rfl:=X25 h
  exact ha
 split at h
 ·unfold Ir at h
  rcases FY x.Type_ with ⟨e,_⟩|⟨e,_⟩|⟨e,_⟩|⟨e,_⟩|⟨e,_⟩|⟨e,_⟩|⟨e,_⟩|⟨e,_⟩|⟨e1,e2,e3,e4,e5,e6,e7,e8,_⟩
  iterate 2
   ·rw[e] at h
    obtain⟨v,_,rfl⟩:=Option.map_eq_some_iff.1 h
    exact ha
  ·rw[e] at h
   obtain⟨v,hv,rfl⟩:=Option.map_eq_some_iff.1 h
   unfold UG at hv
   split at hv
   ·rename_i hc
    obtain rfl:=X25 hv
    exact (G0 (six:=false) hc).2.1
   cases hv
  iterate 5
   ·rw[e] at h
    obtain⟨v,_,rfl⟩:=Option.map_eq_some_iff.1 h
    exact ha
  rw[if_neg e1,if_neg e2,if_neg e3,if_neg e4,if_neg e5,if_neg e6,if_neg e7,if_neg e8] at h
  obtain rfl:=X25 h
  exact ha
 cases h
theorem Q8 :∀{l:List JAA} {a a':JAE},IL a l=some a'->a.Next.V6=false->a'.Next.V6=false
 | [],a,a',h,ha=>by
  obtain rfl:=X25 h
  exact ha
 | x::t,a,a',h,ha=>by
  unfold IL at h
  obtain⟨b,h1,h2⟩:=Option.bind_eq_some_iff.1 h
  exact Q8 h2 (Wc h1 ha)
theorem aJ (l:List JAA):(rdS l).1.Next.V6=false:=by
 unfold rdS
 split
 ·rfl
 cases hf:IL eA (BH l) with
 | none=>rfl
 | some a=>
  dsimp only
  split
  ·rfl
  exact (Q8 hf rfl:a.Next.V6=false)
theorem WC {l:List JAA}(h:(rdS l).2=0)(h1:Ei l 1=true):0<=(rdS l).1.Origin:=by
 unfold rdS at h ⊢
 split at h
 ·cases h
 rename_i hb
 rw[if_neg hb]
 cases hf:IL eA (BH l) with
 | none=>rw[hf] at h;cases h
 | some a=>
  rw[hf] at h
  dsimp only at h ⊢
  split at h
  ·cases h
  rename_i hk
  rw[if_neg hk]
  have fo:=NJ hf
  rw[(DO l).2.2.1 1] at fo
  exact fo.2 h1
structure AnyU (u:JAG)(e:Int):Prop where
 c:e=0\/e=13
 w:e=13->u.Announce=[]/\u.Withdraw≠[]
 gw :∀p∈u.Withdraw,CB p
 ga :∀p∈u.Announce,CB p/\p.Addr.V6=u.JAE.Next.V6
 a:u.Announce≠[]->0<=u.JAE.Origin/\u.JAE.Next≠zAd/\VA u.JAE
 z:u.Announce=[]->u.JAE=eA
 n:u.Withdraw.length<=1000/\u.Announce.length<=1000
theorem Zo {b:List UInt8}(hb:b.length<=400000):XP b=(eU,12)\/AnyU (XP b).1 (XP b).2:=by
 unfold XP
 cases hP:L9 b with
 | none=>exact .inl rfl
 | some P=>
  refine .inr ?_
  obtain⟨p1,p2,p3,p4,w,b1,a,rest,h1,h2,h3,hR,hU,hO,hF⟩:=SJ hb hP
  obtain⟨n1,n2,n3⟩:=Xt p1
  obtain⟨r1,r2⟩:=VO hR
  have u1:=R9 hU
  have o1:=K0 hO
  have f1:=K0 hF
  have gw :∀p∈P.old++P.gone,CB p:=fun p hp=>by
   rcases X23.1 hp with hp | hp
   ·exact (o1 p hp).1
   exact (u1 p hp).1
  have ga :∀p∈P.four++P.six,CB p:=fun p hp=>by
   rcases X23.1 hp with hp | hp
   ·exact (f1 p hp).1
   exact (r1 p hp).1
  dsimp only
  by_cases h0:P.four++P.six=[]
  ·rw[if_pos h0]
   exact⟨.inl rfl,(fun q=>by cases q),gw,(fun p hp=>by cases hp),fun q=>absurd rfl q,fun _=>rfl,by dsimp only;rw[X11];omega,by simp⟩
  rw[if_neg h0]
  by_cases hf:W2 P=true
  ·rw[if_pos hf]
   refine⟨.inr rfl,fun _=>⟨rfl,?_⟩,fun p hp=>?_,(fun p hp=>by cases hp),fun q=>absurd rfl q,fun _=>rfl,by dsimp only;simp only[X11];omega,by simp⟩
   ·dsimp only
    intro q
    exact h0 (List.append_eq_nil_iff.1 q).2
   rcases X23.1 hp with hp | hp
   ·exact gw p hp
   exact ga p hp
  rw[if_neg hf]
  have hf:W2 P=false:=by simpa using hf
  unfold W2 at hf
  simp only[Bool.or_eq_false_iff,decide_eq_false_iff_not,Bool.not_eq_false',Bool.and_eq_false_iff,ne_eq,Decidable.not_not] at hf
  obtain⟨q0,_,q1,q2,q3⟩:=hf
  have va:VA (rdS P.l).1:=by
   rcases W1 (l:=P.l) ⟨by omega,fun x hx=>by have:=p4 x hx;omega⟩ with h | h | h | h
   ·rw[h] at q0;cases q0
   ·rw[h] at q0;cases q0
   ·rw[h] at q0;cases q0
   exact h.2
  have ho:=WC q0 q1
  have hn:=aJ P.l
  refine⟨.inl rfl,(fun q=>by cases q),gw,?_,fun _=>?_,fun q=>absurd q h0,by dsimp only;rw[X11];omega,by dsimp only;rw[X11];omega⟩
  ·intro p hp
   refine⟨ga p hp,?_⟩
   dsimp only
   rcases X23.1 hp with hp | hp
   ·have h4:0<P.four.length:=List.length_pos_of_mem hp
    rw[if_neg (fun q=>n3 ⟨h4,q⟩),hn]
    exact (f1 p hp).2
   have h6:0<P.six.length:=List.length_pos_of_mem hp
   rw[if_pos h6]
   dsimp only
   rw[(r2 (List.length_pos_iff.1 h6)).2]
   exact (r1 p hp).2
  by_cases h6:0<P.six.length
  ·rw[if_pos h6]
   obtain⟨k1,k2⟩:=r2 (List.length_pos_iff.1 h6)
   refine⟨ho,fun q=>?_,⟨va.O,va.o,va.p,k1,va.m,va.r,va.t,va.c,va.l,va.e⟩⟩
   dsimp only at q
   rw[q] at k2
   cases k2
  rw[if_neg h6]
  have h4:0<P.four.length:=by
   rcases Nat.eq_zero_or_pos P.four.length with q | q
   ·have e4:=List.eq_nil_of_length_eq_zero q
    have e6:=List.eq_nil_of_length_eq_zero (Nat.eq_zero_of_not_pos h6)
    exact absurd (by rw[e4,e6];rfl) h0
   exact q
  refine⟨ho,fun q=>?_,va⟩
  rcases q3 with q3 | q3
  ·exact q3 h4
  rw[q] at q3
  have:Addr.eqd zAd zAd=true:=(Addr.eqd_iff _ _).2 rfl
  rw[this] at q3
  cases q3
def byB (a:Addr):List UInt8:=(Ba a).getD []
theorem Ko {a:Addr}(h:a.ok=true):Ba a=some (byB a)/\(byB a).length=a.L:=by
 obtain⟨r,h1,h2,_⟩:=Hz h
 unfold byB
 rw[h1]
 exact⟨rfl,h2⟩
def RF (p:JAD):List UInt8:=Ao p.Len::(byB p.Addr).take ((p.Len.toNat+7)/8)
def A6 (six:Bool)(l:List JAD):List UInt8:=l.flatMap fun p=>if (p.Addr.V6==six)=true then RF p else []
theorem w_L (a:Addr):a.w=8*a.L/\a.L<=16:=by unfold Addr.w Addr.L;split<;>exact⟨rfl,by omega⟩
theorem N5 {p:JAD}(h:CB p):(RF p).length<=17:=by
 obtain⟨h1,h2,h3,_⟩:=h
 obtain⟨_,e2⟩:=Ko h1
 have:=(w_L p.Addr).2
 unfold RF
 simp only[X12,X18]
 omega
theorem IN (six:Bool)(p:JAD)(t:List JAD):A6 six (p::t)=(if (p.Addr.V6==six)=true then RF p else [])++A6 six t:=List.flatMap_cons
theorem Cc {six:Bool} :∀{l:List JAD},(∀p∈l,CB p)->(A6 six l).length<=17*l.length
 | [],_=>by simp[A6]
 | p::t,h=>by
  have h1:=N5 (h p (by simp))
  have h2:=Cc (six:=six) (l:=t) fun q hq=>h q (X19 _ hq)
  rw[IN,X11,X12]
  split
  ·omega
  simp only[X13];omega
theorem LC {l:List JAD}(hl:l.length<=100000)(hg :∀p∈l,CB p)(six:Bool):EN l six=some (A6 six l):=by
 unfold EN
 rw[AH]
 refine (Tq (fun (t:List JAD) _ (s:List UInt8)=>s.length+17*t.length<=10000000/\∀p∈t,CB p) (fun t _ s=>some (s++A6 six t)) ?_ ?_ l 0 [] ⟨by simp only[X13];omega,hg⟩).trans ?_
 ·intro i s _
  show some s=some (s++[])
  rw[List.append_nil]
 ·rintro next p t i s ⟨h1,h2⟩ hn
  simp only[X12] at h1
  have hp:=h2 p (by simp)
  have hcl:=N5 hp
  have ht :∀q∈t,CB q:=fun q hq=>h2 q (X19 _ hq)
  obtain⟨k1,k2,k3,_⟩:=hp
  obtain⟨e1,e2⟩:=Ko k1
  obtain⟨w1,w2⟩:=w_L p.Addr
  rw[AH,IN]
  by_cases h6:(p.Addr.V6==six)=true
  ·obtain⟨k,hk⟩ :∃k:Nat,p.Len=k:=⟨p.Len.toNat,by omega⟩
   have e3:AN (Int.tdiv (AN (p.Len+7)) 8)=(((p.Len.toNat+7)/8:Nat):Int):=by
    rw[hk,Int.toNat_natCast,AO (x:=(k:Int)+7) (by omega),Int.tdiv_eq_ediv_of_nonneg (by omega),AO (by omega)]
    omega
   have e4:(p.Len.toNat+7)/8<=p.Addr.L:=by omega
   have e5:chk (0<=(0:Int)/\(0:Int)<=(((p.Len.toNat+7)/8:Nat):Int)/\(((p.Len.toNat+7)/8:Nat):Int)<=((byB p.Addr).length:Int))=some ():=if_pos (by rw[e2];omega)
   have e6:List.take (Int.toNat (((p.Len.toNat+7)/8:Nat):Int)-Int.toNat 0) (List.drop (Int.toNat 0) (byB p.Addr))=(byB p.Addr).take ((p.Len.toNat+7)/8):=by
    rw[Int.toNat_natCast];rfl
   rw[if_pos h6,if_pos h6,AP (by decide) (by simp only[X22];omega),AC,e1,AC,e3,e5,AC,e6,
    AP (by decide) (by simp only[X11,X22,X18];omega),AC]
   dsimp only
   rw[hn _ ⟨by
    simp only[X11,X22,X18]
    omega,ht⟩]
   unfold RF
   simp only[List.append_assoc,List.singleton_append,List.cons_append,List.nil_append]
  rw[if_neg h6,if_neg h6]
  dsimp only
  rw[hn _ ⟨by omega,ht⟩,List.nil_append]
 rw[List.nil_append]
theorem Xr {l:List JAA}(hl:l.length<=1000000)(x:JAA):GE l x=some (Gj ltT l x):=by
 unfold GE
 have hf:=ay (p:=(ltT · x)) (l:=l) (by omega) (g:=fun y k=>k (cond true (decide (y.Type_<x.Type_)) false)) (fun y _ k=>rfl) (K:=fun v7=>Option.bind (part l 0 v7) fun v8=>
  Option.bind (apnd (α:=JAA) 40 [] v8) fun _=>
  Option.bind (apnd (α:=JAA) 40 v8 ([x]:List JAA)) fun v9=>
  Option.bind (part l v7 (l.length:Int)) fun v10=>
  Option.bind (apnd (α:=JAA) 40 v9 v10) fun v11=>
  some v11)
 refine Eq.trans hf ?_
 exact Re (K:=some) (b:=40) (lt:=ltT) (l:=l) (x:=x) (by decide) (by omega)
def lst0 (u:JAG):List JAA:=if 0<u.Announce.length then wrS u.JAE else []
def Jo (u:JAG):List JAA:=if 0<(A6 true u.Announce).length then Gj ltT (lst0 u) ⟨128,14,[0,2,1,16]++byB u.JAE.Next++[0]++A6 true u.Announce⟩ else lst0 u
def Eg (u:JAG):List JAA:=if 0<(A6 true u.Withdraw).length then Gj ltT (Jo u) ⟨128,15,[0,2,1]++A6 true u.Withdraw⟩ else Jo u
def two (n:Nat):List UInt8:=[Ao (Int.fdiv (n:Int) (2^(min (Int.toNat 8) 64))),Ao (n:Int)]
def Kw (u:JAG)(a:List UInt8):List UInt8:=two (A6 false u.Withdraw).length++A6 false u.Withdraw++two a.length++a++A6 false u.Announce
def EI (u:JAG):List UInt8×Int:=if (Dc (Eg u)).2≠0 then ([],(Dc (Eg u)).2) else (Kw u (Dc (Eg u)).1,0)
structure GoodU (u:JAG):Prop where
 w:u.Withdraw.length<=1000
 n:u.Announce.length<=1000
 gw :∀p∈u.Withdraw,CB p
 ga :∀p∈u.Announce,CB p
 a:0<u.Announce.length->VA u.JAE/\(wrS u.JAE).length<=16/\∀x∈wrS u.JAE,x.Data.length<=768
theorem ON {u:JAG}(g:GoodU u):E7 u=some (EI u):=by
 have cw6:=Cc (six:=true) g.gw
 have cw4:=Cc (six:=false) g.gw
 have ca6:=Cc (six:=true) g.ga
 have ca4:=Cc (six:=false) g.ga
 have hw:=g.w;have hn:=g.n
 have h0:(lst0 u).length<=16/\∀x∈lst0 u,x.Data.length<=768:=by
  unfold lst0
  split
  ·exact (g.a ‹_›).2
  simp
 unfold E7
 have e0 :∀(K:List JAA->Option (List UInt8×Int)),AI (τ:=(List JAA)) (fun k1=>
  if (decide ((u.Announce.length:Int) > 0)) then
   Option.bind (FA u.JAE) fun (v2,v3)=>
   if (v3 != 0) then
    some ([],v3)
   else
    k1 v2
  else
   k1 []) K=K (lst0 u):=by
  intro K
  rw[AH]
  unfold lst0
  by_cases h:0<u.Announce.length
  ·rw[if_pos (by simp only[decide_eq_true_eq];omega),if_pos h,SI (g.a h).1,AC]
   exact if_neg (by simp)
  rw[if_neg (by simp only[decide_eq_true_eq];omega),if_neg h]
 rw[e0]
 rw[LC (by omega) g.ga,AC]
 have hL:(byB u.JAE.Next).length<=16\/u.Announce.length=0:=by
  rcases Nat.eq_zero_or_pos u.Announce.length with h | h
  ·exact .inr h
  have:=(Ko (g.a h).1.n).2
  have:=(w_L u.JAE.Next).2
  exact .inl (by omega)
 have e1 :∀{ρ:Type} (K:List JAA->Option ρ),AI (τ:=(List JAA)) (fun k6=>
  if (decide (((A6 true u.Announce).length:Int) > 0)) then
   Option.bind (Ba u.JAE.Next) fun v7=>
   Option.bind (apnd (α:=UInt8) 1 ([(0:UInt8),(2:UInt8),(1:UInt8),(16:UInt8)]:List UInt8) v7) fun v8=>
   Option.bind (apnd (α:=UInt8) 1 v8 ([(0:UInt8)]:List UInt8)) fun v9=>
   Option.bind (apnd (α:=UInt8) 1 v9 (A6 true u.Announce)) fun v10=>
   Option.bind (GE (lst0 u) (⟨128,14,v10⟩:JAA)) fun v11=>
   k6 v11
  else
   k6 (lst0 u)) K=K (Jo u):=by
  intro ρ K
  rw[AH]
  unfold Jo
  by_cases h:0<(A6 true u.Announce).length
  ·have hpos:0<u.Announce.length:=by omega
   have hl:(byB u.JAE.Next).length<=16:=hL.resolve_right (by omega)
   rw[if_pos (by simp only[decide_eq_true_eq];omega),if_pos h,(Ko (g.a hpos).1.n).1,AC,AP (by decide) (by simp only[X12,X13];omega),AC,
    AP (by decide) (by simp only[X11,X12,X13];omega),AC,AP (by decide) (by simp only[X11,X12,X13];omega),AC,Xr (by omega),AC]
  rw[if_neg (by simp only[decide_eq_true_eq];omega),if_neg h]
 rw[e1,LC (by omega) g.gw,AC]
 have h1:(Jo u).length<=17/\∀x∈Jo u,x.Data.length<=20000:=by
  unfold Jo
  split
  ·refine⟨by rw[HB];omega,fun x hx=>?_⟩
   rcases Fb.1 hx with hx | rfl
   ·have:=h0.2 x hx;omega
   have hl:(byB u.JAE.Next).length<=16:=hL.resolve_right (by omega)
   simp only[X11,X12,X13]
   omega
  exact⟨by omega,fun x hx=>by have:=h0.2 x hx;omega⟩
 have e2 :∀{ρ:Type} (K:List JAA->Option ρ),AI (τ:=(List JAA)) (fun k14=>
  if (decide (((A6 true u.Withdraw).length:Int) > 0)) then
   Option.bind (apnd (α:=UInt8) 1 ([(0:UInt8),(2:UInt8),(1:UInt8)]:List UInt8) (A6 true u.Withdraw)) fun v15=>
   Option.bind (GE (Jo u) (⟨128,15,v15⟩:JAA)) fun v16=>
   k14 v16
  else
   k14 (Jo u)) K=K (Eg u):=by
  intro ρ K
  rw[AH]
  unfold Eg
  by_cases h:0<(A6 true u.Withdraw).length
  ·rw[if_pos (by simp only[decide_eq_true_eq];omega),if_pos h,AP (by decide) (by simp only[X12,X13];omega),AC,Xr (by omega),AC]
  rw[if_neg (by simp only[decide_eq_true_eq];omega),if_neg h]
 rw[e2]
 have h2:(Eg u).length<=18/\∀x∈Eg u,x.Data.length<=20000:=by
  unfold Eg
  split
  ·refine⟨by rw[HB];omega,fun x hx=>?_⟩
   rcases Fb.1 hx with hx | rfl
   ·exact h1.2 x hx
   simp only[X11,X12,X13]
   omega
  exact⟨by omega,h1.2⟩
 rw[Vz (by omega) (fun x hx=>by have:=h2.2 x hx;omega),AC]
 have hj:=OA (l:=Eg u)
 unfold EI
 dsimp only
 by_cases he:(Dc (Eg u)).2=0
 ·have hne:¬ (Dc (Eg u)).2≠0:=fun q=>q he
  rw[if_neg (by rw[he];decide),if_neg hne,LC (by omega) g.gw,AC,AP (by decide) (by simp only[X12,X13];omega),AC,
   AP (by decide) (by simp only[X11,X12,X13];omega),AC,AP (by decide) (by simp only[X11,X12,X13];omega),AC,
   LC (by omega) g.ga,AC,AP (by decide) (by simp only[X11,X12,X13];omega),AC]
  rfl
 rw[if_pos (by simpa using he),if_pos he]
theorem dL {a:Addr}(h:a.ok=true){j:Nat}(hj:j<a.L):(byB a)[j]?=some (Nv a (a.L-1-j)):=by
 obtain⟨r,h1,h2,h3⟩:=Hz h
 unfold byB
 rw[h1]
 exact h3 j hj
theorem dl (n:Nat):Int.fdiv (n:Int) (2^(min (Int.toNat 8) 64))=((n/256:Nat):Int):=by
 have:min (Int.toNat 8) 64=8:=rfl
 have e5:((2:Int)^8)=((2^8:Nat):Int):=by simp
 rw[this,e5,Int.fdiv_eq_ediv_of_nonneg _ (Int.natCast_nonneg _),Int.natCast_ediv]
def sk (x:JAA):Bool:=x.Type_ != 14&&x.Type_ != 15
theorem dZ {x:JAA}(h:sk x=false):x.Type_=14\/x.Type_=15:=by
 unfold sk at h
 simp only[Bool.and_eq_false_iff,bne_eq_false_iff_eq] at h
 exact h
theorem dI {x:JAA}(h:sk x=false):unk x.Type_=false/\fl x.Type_=0:=by
 rcases dZ h with e | e<;>rw[e]<;>decide
theorem Rw {p:JAA->Bool}{l:List JAA}{x:JAA}(h:p x=false):(Gj ltT l x).filter p=l.filter p:=by
 unfold Gj
 rw[List.filter_append,List.filter_cons,if_neg (by rw[h];decide),<- List.filter_append,List.takeWhile_append_dropWhile]
def x14 (u:JAG):JAA:=⟨128,14,[0,2,1,16]++byB u.JAE.Next++[0]++A6 true u.Announce⟩
def x15 (u:JAG):JAA:=⟨128,15,[0,2,1]++A6 true u.Withdraw⟩
theorem YE (u:JAG):Jo u=if 0<(A6 true u.Announce).length then Gj ltT (lst0 u) (x14 u) else lst0 u:=rfl
theorem Xy (u:JAG):Eg u=if 0<(A6 true u.Withdraw).length then Gj ltT (Jo u) (x15 u) else Jo u:=rfl
theorem TM {six:Bool} :∀{l:List JAD},A6 six l=[]↔l.filter (fun p=>p.Addr.V6==six)=[]
 | []=>by simp[A6]
 | p::t=>by
  rw[IN,List.filter_cons]
  by_cases h6:(p.Addr.V6==six)=true
  ·rw[if_pos h6,if_pos h6]
   unfold RF
   simp
  rw[if_neg h6,if_neg h6,List.nil_append]
  exact TM
theorem Yi {six:Bool}{l:List JAD}:0<(A6 six l).length↔l.filter (fun p=>p.Addr.V6==six)≠[]:=by
 rw[List.length_pos_iff,ne_eq,TM]
structure WrU (u:JAG):Prop where
 g:GoodU u
 w:u.Withdraw.length<=256
 n:u.Announce.length<=256
 s :∀p∈u.Announce,p.Addr.V6=u.JAE.Next.V6
 o:u.Announce≠[]->u.JAE.Origin≠-1/\u.JAE.Next≠zAd
theorem WM {a:JAE}(v:VA a){x:JAA}(h:x∈wrS a):sk x=true/\(x.Flags=64\/x.Flags=128\/x.Flags=192\/x.Flags=224)/\0<=x.Type_/\x.Type_<=255:=by
 rcases (XD v.O).1 h with ⟨k,h⟩|h
 ·obtain⟨b,hb,rfl⟩:=I5.1 h
  rcases FY k with ⟨e,f⟩|⟨e,f⟩|⟨e,f⟩|⟨e,f⟩|⟨e,f⟩|⟨e,f⟩|⟨e,f⟩|⟨e,f⟩|⟨_,_,_,_,_,_,_,_,f⟩
  iterate 8
   ·subst e
    unfold sk
    dsimp only
    rw[f]
    decide
  rw[QF f] at hb
  cases hb
 obtain⟨h1,h2,h3,h4,_⟩:=Hh v.O h
 refine⟨?_,.inr (.inr (.inr h4)),by omega,by omega⟩
 cases hs:sk x with
 | true=>rfl
 | false=>rw[(dI hs).1] at h1;cases h1
theorem be {l:List JAA}(h :∀x∈l,sk x=true):D9 l 14=[]/\D9 l 15=[]/\l.filter sk=l:=by
 refine⟨?_,?_,List.filter_eq_self.2 h⟩
 ·unfold D9
  rw[List.filter_eq_nil_iff]
  intro x hx q
  have:=h x hx
  unfold sk at this
  simp only[X27,bne_iff_ne] at this
  exact this.1 (by simpa using q)
 unfold D9
 rw[List.filter_eq_nil_iff]
 intro x hx q
 have:=h x hx
 unfold sk at this
 simp only[X27,bne_iff_ne] at this
 exact this.2 (by simpa using q)
def HO (p:JAD):Bool:=(DL p).getD false
theorem HE (p:JAD):DL p=some (HO p)/\(HO p=true↔CB p):=by
 obtain⟨b,h1,h2⟩:=Qm p
 unfold HO
 rw[h1]
 exact⟨rfl,h2⟩
def isE (a:JAE):Bool:=(C9 a eA).getD false
theorem XT (a:JAE):C9 a eA=some (isE a):=by
 obtain⟨b,h⟩:=(inferInstance:Tt (C9 a eA)).h
 unfold isE
 rw[h];rfl
def RX (a:JAE)(p:JAD):Bool:=(p.Addr.V6==a.Next.V6)&&((a.Origin != -1)&&(!(Addr.eqd a.Next zAd)&&Gq a))
def Ws (u:JAG):Bool:=((EI u).2==0)&&decide ((EI u).1.length<=4077)
def Fp (u:JAG):Bool:=decide (u.Withdraw.length<=256)&&(decide (u.Announce.length<=256)&&((u.Withdraw++u.Announce).all HO&&((!(decide (u.Announce=[])) || isE u.JAE)&&(u.Announce.all (RX u.JAE)&&Ws u))))
theorem PS {u:JAG}(hs:SmT u.JAE)(hw:u.Withdraw.length<=1000)(hn:u.Announce.length<=1000)(hW :∀{a:JAE},VA a->(wrS a).length<=16):F8 u=some (Fp u):=by
 unfold F8 Fp
 rw[AH]
 by_cases h1:u.Withdraw.length<=256
 case neg=>
  rw[if_pos (by simp only[decide_eq_true_eq];omega),decide_eq_false h1]
  rfl
 rw[if_neg (by simp only[decide_eq_true_eq];omega),decide_eq_true h1]
 dsimp only
 by_cases h2:u.Announce.length<=256
 case neg=>
  rw[decide_eq_false h2,if_pos (by simp only[cond_false,decide_eq_true_eq];omega)]
  rfl
 rw[decide_eq_true h2,if_neg (by simp only[cond_false,decide_eq_true_eq];omega),AP (by decide) (by simp only[X13];omega),AC,AP (by decide) (by omega),AC,AH]
 refine (ZD (g:=HO) (r0:=some false) fun next p i _=>by
  rw[(HE p).1,AC]
  cases HO p<;>rfl).trans ?_
 cases hg:(u.Withdraw++u.Announce).all HO with
 | false=>rfl
 | true=>
  have hgood :∀p∈u.Withdraw++u.Announce,CB p:=fun p hp=>(HE p).2.1 (List.all_eq_true.1 hg p hp)
  simp only[cond_true,Bool.true_and]
  rw[AH]
  have hE:DK=some eA:=rfl
  by_cases h0:u.Announce=[]
  ·rw[if_pos ((bI _).2 h0),hE,AC,XT,AC,decide_eq_true h0]
   cases he:isE u.JAE with
   | false=>rfl
   | true=>
    simp only[Bool.not_true,cond_true,Bool.false_or,Bool.true_and]
    rw[if_neg (by decide),AH,h0]
    show Option.bind (E7 u) _=_
    have g:GoodU u:=⟨by omega,by omega,fun p hp=>hgood p (List.mem_append_left _ hp),(fun p hp=>by rw[h0] at hp;cases hp),fun q=>by rw[h0] at q;cases q⟩
    rw[ON g,AC]
    unfold Ws
    rw[AH]
    have e:decide (((EI u).1.length:Int)<=4077)=decide ((EI u).1.length<=4077):=by rw[decide_eq_decide];omega
    rw[e]
    cases ((EI u).2==0)<;>cases decide ((EI u).1.length<=4077)<;>rfl
  rw[if_neg (fun q=>h0 ((bI _).1 q)),decide_eq_false h0]
  simp only[Bool.not_false,Bool.true_or,Bool.true_and]
  rw[if_neg (by decide),AH]
  refine (ZD (g:=RX u.JAE) (r0:=some false) fun next p i _=>by
   rw[AH,OI hs,AC]
   unfold RX
   have ez:Addr.eqd u.JAE.Next (⟨false,(0:UInt64),(0:UInt64)⟩:Addr)=Addr.eqd u.JAE.Next zAd:=rfl
   have eo:(u.JAE.Origin==(-1))=!(u.JAE.Origin != -1):=(Bool.not_not _).symm
   rw[ez,eo]
   cases (p.Addr.V6==u.JAE.Next.V6)<;>cases (u.JAE.Origin != -1)<;>cases Addr.eqd u.JAE.Next zAd<;>cases Gq u.JAE<;>rfl).trans ?_
  cases hf:u.Announce.all (RX u.JAE) with
  | false=>rfl
  | true=>
   simp only[cond_true,Bool.true_and]
   have hv:VA u.JAE:=by
    obtain⟨p,hp⟩:=List.exists_mem_of_ne_nil _ h0
    have:=List.all_eq_true.1 hf p hp
    unfold RX at this
    simp only[X27] at this
    exact Ju.1 this.2.2.2
   have g:GoodU u:=⟨by omega,by omega,fun p hp=>hgood p (List.mem_append_left _ hp),fun p hp=>hgood p (List.mem_append_right _ hp),fun _=>⟨hv,hW hv,fun x hx=>P2 hv hx⟩⟩
   rw[ON g,AC]
   unfold Ws
   rw[AH]
   have e:decide (((EI u).1.length:Int)<=4077)=decide ((EI u).1.length<=4077):=by rw[decide_eq_decide];omega
   rw[e]
   cases ((EI u).2==0)<;>cases decide ((EI u).1.length<=4077)<;>rfl
theorem TN {u:JAG}(h:Fp u=true)(hW :∀{a:JAE},VA a->(wrS a).length<=16):WrU u/\Ws u=true/\(u.Announce=[]->isE u.JAE=true):=by
 unfold Fp at h
 simp only[X27,decide_eq_true_eq] at h
 obtain⟨h1,h2,h3,h4,h5,h6⟩:=h
 have hgood :∀p∈u.Withdraw++u.Announce,CB p:=fun p hp=>(HE p).2.1 (List.all_eq_true.1 h3 p hp)
 have hfit :∀p∈u.Announce,p.Addr.V6=u.JAE.Next.V6/\u.JAE.Origin≠-1/\u.JAE.Next≠zAd/\VA u.JAE:=fun p hp=>by
  have:=List.all_eq_true.1 h5 p hp
  unfold RX at this
  simp only[X27,beq_iff_eq,bne_iff_ne,Bool.not_eq_true'] at this
  obtain⟨a1,a2,a3,a4⟩:=this
  exact⟨a1,a2,(fun q=>by rw[q,(Addr.eqd_iff _ _).2 rfl] at a3;cases a3),Ju.1 a4⟩
 refine⟨⟨⟨by omega,by omega,fun p hp=>hgood p (List.mem_append_left _ hp),fun p hp=>hgood p (List.mem_append_right _ hp),fun q=>?_⟩,h1,h2,fun p hp=>(hfit p hp).1,fun q=>?_⟩,h6,fun q=>?_⟩
 ·obtain⟨p,hp⟩:=List.exists_mem_of_ne_nil _ (List.length_pos_iff.1 q)
  have v:=(hfit p hp).2.2.2
  exact⟨v,hW v,fun x hx=>P2 v hx⟩
 ·obtain⟨p,hp⟩:=List.exists_mem_of_ne_nil _ q
  exact⟨(hfit p hp).2.1,(hfit p hp).2.2.1⟩
 rw[decide_eq_true q] at h4
 simpa using h4
def encS (u:JAG):List UInt8×Int:=if Fp u=true then EI u else ([],1)
theorem Uh {u:JAG}(hs:SmT u.JAE)(hw:u.Withdraw.length<=1000)(hn:u.Announce.length<=1000)(hW :∀{a:JAE},VA a->(wrS a).length<=16):GU u=some (encS u):=by
 unfold GU encS
 rw[PS hs hw hn hW,AC]
 cases hv:Fp u with
 | false=>rfl
 | true=>
  rw[if_neg (by decide),if_pos rfl,ON (TN hv hW).1.g,AC]
def x1 (o:UInt8):JAA:=⟨64,1,[o]⟩
theorem Qs {l:List JAA}{x:JAA}(h:l.Pairwise fun a b=>ltT a b=true)(hx:D9 l x.Type_=[]):(Gj ltT l x).Pairwise fun a b=>ltT a b=true:=by
 have hne :∀y∈l,y.Type_≠x.Type_:=by
  unfold D9 at hx
  rw[List.filter_eq_nil_iff] at hx
  exact fun y hy e=>hx y hy (by rw[beq_iff_eq];exact e)
 have h0:=h
 rw[<- List.takeWhile_append_dropWhile (p:=(ltT · x)) (l:=l),List.pairwise_append] at h
 obtain⟨h1,h2,h3⟩:=h
 have hd :∀b∈l.dropWhile (ltT · x),ltT x b=true:=by
  cases hl:l.dropWhile (ltT · x) with
  | nil=>intro b hb;simp at hb
  | cons y t=>
   have hy:ltT y x=false:=by
    have:=List.head?_dropWhile_not (ltT · x) l
    rw[hl] at this
    simpa using this
   have hyl:y∈l:=by
    have:y∈l.dropWhile (ltT · x):=by rw[hl];simp
    exact List.dropWhile_subset _ this
   have hxy:ltT x y=true:=by
    have:=hne y hyl
    unfold ltT at hy ⊢
    rw[decide_eq_false_iff_not] at hy
    exact decide_eq_true (by omega)
   rw[hl] at h2
   intro b hb
   rcases List.mem_cons.1 hb with rfl | hb
   ·exact hxy
   exact Tu _ _ _ hxy ((List.pairwise_cons.1 h2).1 b hb)
 unfold Gj
 rw[List.pairwise_append]
 refine⟨h1,List.pairwise_cons.2 ⟨hd,h2⟩,fun a ha b hb=>?_⟩
 rcases List.mem_cons.1 hb with e | hb
 ·rw[e];exact Ie (ltT · x) ha
 exact h3 a ha b hb
def raw (u:JAG):List JAA:=lst0 u++((if 0<(A6 true u.Announce).length then [x14 u] else [])++if 0<(A6 true u.Withdraw).length then [x15 u] else [])
theorem VU {u:JAG}(h:WrU u):(Eg u).Pairwise (fun a b=>ltT a b=true)/\∀x,x∈Eg u↔x∈raw u:=by
 have h0:(lst0 u).Pairwise (fun a b=>ltT a b=true)/\D9 (lst0 u) 14=[]/\D9 (lst0 u) 15=[]:=by
  unfold lst0
  by_cases ha:0<u.Announce.length
  ·rw[if_pos ha]
   obtain⟨v,_,_⟩:=h.g.a ha
   obtain⟨a14,a15,_⟩:=be fun x hx=>(WM v hx).1
   exact⟨(N3 v.O).imp fun {p q} h=>by rw[WN] at h;exact h,a14,a15⟩
  rw[if_neg ha]
  exact⟨.nil,rfl,rfl⟩
 obtain⟨s0,a14,a15⟩:=h0
 have h1:(Jo u).Pairwise (fun a b=>ltT a b=true)/\D9 (Jo u) 15=[]/\∀x,x∈Jo u↔x∈lst0 u\/x∈(if 0<(A6 true u.Announce).length then [x14 u] else []):=by
  rw[YE]
  by_cases hc:0<(A6 true u.Announce).length
  ·rw[if_pos hc,if_pos hc]
   exact⟨Qs s0 a14,(Rw (x:=x14 u) rfl).trans a15,fun x=>by rw[Fb,X14]⟩
  rw[if_neg hc,if_neg hc]
  exact⟨s0,a15,fun x=>by simp⟩
 obtain⟨s1,b15,m1⟩:=h1
 rw[Xy]
 unfold raw
 by_cases hc:0<(A6 true u.Withdraw).length
 ·rw[if_pos hc,if_pos hc]
  refine⟨Qs s1 b15,fun x=>?_⟩
  rw[Fb,m1,X23,X23,X14,or_assoc]
 rw[if_neg hc,if_neg hc]
 refine⟨s1,fun x=>?_⟩
 rw[m1,List.append_nil,X23]
theorem Zj {u:JAG}(h:WrU u){cmp:JAA->JAA->Option Int}(hc :∀a b,cmp a b=some (FU (HI a) (HI b)))(hl:(raw u).length<=1000000)(hd:Pm (raw u)):EM cmp (raw u)=some (Eg u):=by
 obtain⟨s,m⟩:=VU h
 obtain⟨r,h1,h2,h3⟩:=MS GQ hc (l:=raw u) (by omega)
 rw[h1]
 congr 1
 refine Tn GQ (N6 GQ h3 ?_) (s.imp fun {a b} q=>by rw[WN];exact q) fun x=>?_
 ·exact ((h2.pairwise_iff fun h e=>h e.symm).2 hd).imp fun {a b} q e=>q (by simpa[HI] using e)
 rw[h2.mem_iff,m]
theorem ZI {u:JAG}(h:WrU u):Pm (raw u):=by
 have h0:Pm (lst0 u)/\∀x∈lst0 u,sk x=true:=by
  unfold lst0
  by_cases ha:0<u.Announce.length
  ·rw[if_pos ha]
   obtain⟨v,_,_⟩:=h.g.a ha
   exact⟨bK v.O,fun x hx=>(WM v hx).1⟩
  rw[if_neg ha]
  exact⟨.nil,fun x hx=>by cases hx⟩
 obtain⟨d0,k0⟩:=h0
 have hk :∀x∈lst0 u,x.Type_≠14/\x.Type_≠15:=fun x hx=>by
  have:=k0 x hx
  unfold sk at this
  simpa using this
 unfold raw Pm
 rw[List.pairwise_append]
 refine⟨d0,?_,fun a ha b hb=>?_⟩
 ·split<;>split<;>simp[x14,x15]
 have k:=hk a ha
 rcases X23.1 hb with hb | hb
 ·split at hb
  ·rw[X14] at hb
   subst hb
   exact k.1
  cases hb
 split at hb
 ·rw[X14] at hb
  subst hb
  exact k.2
 cases hb
theorem JG {α:Type}(l:List α):((l.length:Int) != (([]:List α).length:Int))=!decide (l=[]):=by
 cases l with
 | nil=>rfl
 | cons x t=>
  rw[decide_eq_false (by simp),Bool.not_false,bne_iff_ne]
  simp only[X12,X13]
  omega
theorem eE (l:List JAC):ES l []=some (decide (l=[])):=by
 unfold ES
 rw[JG]
 cases l with
 | nil=>rfl
 | cons x t=>rw[decide_eq_false (by simp)];rfl
theorem eS (l:List JAB):EP l []=some (decide (l=[])):=by
 unfold EP
 rw[JG]
 cases l with
 | nil=>rfl
 | cons x t=>rw[decide_eq_false (by simp)];rfl
theorem eT (l:List JAF):B1 l []=some (decide (l=[])):=by
 unfold B1
 rw[JG]
 cases l with
 | nil=>rfl
 | cons x t=>rw[decide_eq_false (by simp)];rfl
theorem eR (l:List JAA):CE l []=some (decide (l=[])):=by
 unfold CE
 rw[JG]
 cases l with
 | nil=>rfl
 | cons x t=>rw[decide_eq_false (by simp)];rfl
theorem Xw (a:JAE):isE a=((a.Origin==-1)&&(decide (a.Path=[])&&(Addr.eqd a.Next zAd&&((a.MED==-1)&&((a.Pref==-1)&&((a.OTC==-1)&&(decide (a.Communities=[])&&(decide (a.JAF=[])&&decide (a.Other=[]))))))))):=by
 have h:=XT a
 unfold C9 at h
 have e :∀x:Bool,cond true x false=x:=fun x=>rfl
 rw[AH,show eA.Path=[] from rfl,show eA.Communities=[] from rfl,show eA.JAF=[] from rfl,show eA.Other=[] from rfl,eE,AC,eS,AC,eT,AC,eR,AC] at h
 have h2:(if (a.Origin==-1)=true then if decide (a.Path=[])=true then if Addr.eqd a.Next zAd=true then if (a.MED==-1)=true then if (a.Pref==-1)=true then if (a.OTC==-1)=true then if decide (a.Communities=[])=true then if decide (a.JAF=[])=true then some (decide (a.Other=[])) else some false else some false else some false else some false else some false else some false else some false else some false)=some (isE a):=h
 generalize isE a=r at h2 ⊢
 generalize (a.Origin==-1)=c1 at h2 ⊢
 generalize decide (a.Path=[])=c2 at h2 ⊢
 generalize Addr.eqd a.Next zAd=c3 at h2 ⊢
 generalize (a.MED==-1)=c4 at h2 ⊢
 generalize (a.Pref==-1)=c5 at h2 ⊢
 generalize (a.OTC==-1)=c6 at h2 ⊢
 generalize decide (a.Communities=[])=c7 at h2 ⊢
 generalize decide (a.JAF=[])=c8 at h2 ⊢
 generalize decide (a.Other=[])=c9 at h2 ⊢
 cases c1<;>cases c2<;>cases c3<;>cases c4<;>cases c5<;>cases c6<;>cases c7<;>cases c8<;>simpa using h2.symm
theorem UM (a:JAE):isE a=true↔a=eA:=by
 constructor
 ·intro h
  rw[Xw] at h
  simp only[X27,beq_iff_eq,decide_eq_true_eq] at h
  obtain⟨h1,h2,h3,h4,h5,h6,h7,h8,h9⟩:=h
  have h3:=(Addr.eqd_iff _ _).1 h3
  obtain⟨a1,a2,a3,a4,a5,a6,a7,a8,a9⟩:=a
  dsimp only at *
  subst h1 h2 h3 h4 h5 h6 h7 h8 h9
  rfl
 rintro rfl
 have:=XT eA
 rw[TO] at this
 exact (X25 this).symm
theorem db:VA eA:=Ju.1 (by decide)
theorem cy:wrS eA=[]:=by
 unfold wrS
 rw[List.flatMap_eq_nil_iff]
 intro k _
 have:G eA (k:Int)=none:=by
  unfold G
  have n1:¬ (eA.Origin≠-1):=fun q=>q rfl
  have n2:¬ (eA.Origin≠-1\/eA.Path≠[]):=fun q=>q.elim (fun q=>q rfl) fun q=>q rfl
  have n3:¬ (Hf eA=true):=by decide
  have n4:¬ (eA.MED≠-1):=fun q=>q rfl
  have n5:¬ (eA.Pref≠-1):=fun q=>q rfl
  have n6:¬ (eA.Communities≠[]):=fun q=>q rfl
  have n7:¬ (eA.JAF≠[]):=fun q=>q rfl
  have n8:¬ (eA.OTC≠-1):=fun q=>q rfl
  rw[if_neg n1,if_neg n2,if_neg n3,if_neg n4,if_neg n5,if_neg n6,if_neg n7,if_neg n8]
  simp only[ite_self]
 unfold ent
 rw[this]
 rfl
theorem dA {x y:Nat}(hx:x<2^56):x ||| 2^56*y=2^56*y+x:=by
 rw[Nat.or_comm]
 exact (Nat.two_pow_add_eq_or_of_lt hx y).symm
theorem aS (lo hi:UInt64):(AW ((BitVec.ofInt 64 ((AW (Int.fdiv (lo.toNat:Int) (2^(min (Int.toNat 8) 64)))).toNat:Int) ||| BitVec.ofInt 64 ((AW ((hi.toNat:Int)*(2^(min (Int.toNat 56) 64)))).toNat:Int)).toNat:Int)).toNat=2^56*(hi.toNat%256)+lo.toNat/256/\
  (AW (Int.fdiv (hi.toNat:Int) (2^(min (Int.toNat 8) 64)))).toNat=hi.toNat/256:=by
 have hl:=lo.toNat_lt
 have hh:=hi.toNat_lt
 have e1:Int.fdiv (lo.toNat:Int) (2^(min (Int.toNat 8) 64))=((lo.toNat/256:Nat):Int):=fd lo.toNat 8
 have e2:Int.fdiv (hi.toNat:Int) (2^(min (Int.toNat 8) 64))=((hi.toNat/256:Nat):Int):=fd hi.toNat 8
 have e3:((hi.toNat:Int)*(2^(min (Int.toNat 56) 64)))=((hi.toNat*2^56:Nat):Int):=by
  rw[Int.natCast_mul]
  rfl
 rw[e1,e2,e3,BP,BP,BP,BP]
 have f1:(UInt64.ofNat (lo.toNat/256)).toNat=lo.toNat/256:=by rw[UInt64.toNat_ofNat'];omega
 have f2:(UInt64.ofNat (hi.toNat/256)).toNat=hi.toNat/256:=by rw[UInt64.toNat_ofNat'];omega
 have f3:(UInt64.ofNat (hi.toNat*2^56)).toNat=2^56*(hi.toNat%256):=by rw[UInt64.toNat_ofNat'];omega
 refine⟨?_,f2⟩
 rw[f1,f3,BitVec.ofInt_natCast,BitVec.ofInt_natCast,BitVec.toNat_or,BitVec.toNat_ofNat,BitVec.toNat_ofNat,Nat.mod_eq_of_lt (by omega),Nat.mod_eq_of_lt (by omega),dA (by omega),UInt64.toNat_ofNat']
 omega
theorem bv (x:Addr)(b:Bool):(Addr.n ⟨b,AW (Int.fdiv (x.Hi.toNat:Int) (2^(min (Int.toNat 8) 64))),AW ((BitVec.ofInt 64 ((AW (Int.fdiv (x.Lo.toNat:Int) (2^(min (Int.toNat 8) 64)))).toNat:Int) ||| BitVec.ofInt 64 ((AW ((x.Hi.toNat:Int)*(2^(min (Int.toNat 56) 64)))).toNat:Int)).toNat:Int)⟩)=x.n/256:=by
 obtain⟨s1,s2⟩:=aS x.Lo x.Hi
 unfold Addr.n
 rw[s1,s2]
 have hl:=x.Lo.toNat_lt
 omega
theorem Zv (x:Addr):Ao (x.Lo.toNat:Int)=UInt8.ofNat x.n:=by
 rw[D5]
 apply XC
 unfold Addr.n
 omega
theorem KL {a:Addr}(h:a.ok=true):BN a=some (byB a):=by
 have hB:=(Ko h).2
 have hL:a.L=16\/a.L=4:=by unfold Addr.L;split<;>omega
 unfold BN
 rw[Ea,AC,h,if_neg (by decide),AH]
 have key :∀n:Int,n=a.L->(Option.bind (chk (0<=n/\n<=n/\n<=1048576)) fun _=>
  AI (τ:=(List UInt8)) (fun k4=>
   A2 (σ:=Int×Addr×(List UInt8)) (fun next5 (v6,v7,v8)=>
    if (decide (v6 ≥ 0)) then
     Option.bind (geti v8 v6) fun v9=>
     Option.bind (seti v8 v6 (Ao (v7.Lo.toNat:Int))) fun v10=>
     next5 ((AN (v6-1)),(⟨v7.V6,(AW (Int.fdiv (v7.Hi.toNat:Int) (2^(min (Int.toNat 8) 64)))),(AW ((BitVec.ofInt 64 ((AW (Int.fdiv (v7.Lo.toNat:Int) (2^(min (Int.toNat 8) 64)))).toNat:Int) ||| BitVec.ofInt 64 ((AW ((v7.Hi.toNat:Int)*(2^(min (Int.toNat 56) 64)))).toNat:Int)).toNat:Int))⟩:Addr),v10)
    else
     k4 v8
   ) fuel ((AN (n-1)),a,(List.replicate (Int.toNat n) (0:UInt8)))
  ) fun v11=>
  some v11)=some (byB a):=by
  intro n hn
  have ck:chk (0<=n/\n<=n/\n<=1048576)=some ():=by unfold chk;rw[if_pos (by omega)]
  rw[ck,AC,AH]
  refine (DU (fun s:Int×Addr×List UInt8=>∃j:Nat,j<=a.L/\s.1=(a.L:Int)-1-(j:Int)/\s.2.1.n=a.n/256^j/\s.2.2.length=a.L/\∀k,a.L-j<=k->k<a.L->s.2.2[k]?=some (Nv a (a.L-1-k))) (fun s=>(s.1+1).toNat) (fun s=>some (byB a)) ?_ fuel (AN (n-1),a,List.replicate (Int.toNat n) (0:UInt8)) ?_ ?_).trans rfl
  ·rintro next ⟨i,x,l⟩ ⟨j,hj,h1,h2,h3,h4⟩ hk
   dsimp only at h1 h2 h3 h4 ⊢
   subst h1
   rcases (by omega:j=a.L\/j<a.L) with e | hlt
   ·rw[if_neg (by simp only[decide_eq_true_eq];omega)]
    congr 1
    apply List.ext_getElem?
    intro k
    by_cases q:k<a.L
    ·rw[h4 k (by omega) q,dL h q]
    rw[List.getElem?_eq_none (by omega),List.getElem?_eq_none (by omega)]
   obtain⟨y,hy,_⟩:=Ok.geti (l:=l) (i:=(a.L:Int)-1-(j:Int)) (by omega)
   have hs:seti l ((a.L:Int)-1-(j:Int)) (Ao (x.Lo.toNat:Int))=some (l.set (a.L-1-j) (UInt8.ofNat x.n)):=by
    unfold seti
    rw[if_pos (by omega),Zv]
    congr 2
    omega
   rw[if_pos (by simp only[decide_eq_true_eq];omega),hy,AC,hs,AC,AO (by omega)]
   refine hk _ ⟨j+1,by omega,by dsimp only;omega,?_,by dsimp only;rw[X21];exact h3,?_⟩ (by dsimp only;omega)
   ·dsimp only
    rw[bv,h2,Nat.div_div_eq_div_mul,Nat.pow_succ]
   dsimp only
   intro k k1 k2
   rw[List.getElem?_set]
   by_cases q:a.L-1-j=k
   ·rw[if_pos q,if_pos (by omega),<- q]
    have e2:a.L-1-(a.L-1-j)=j:=by omega
    rw[e2,h2]
    unfold Nv
    rw[Nat.pow_mul]
   rw[if_neg q]
   exact h4 k (by omega) k2
  ·refine⟨0,by omega,by dsimp only;rw[AO (by omega)];omega,by simp,?_,fun k k1 k2=>by omega⟩
   dsimp only
   rw[X20]
   omega
  dsimp only
  rw[AO (by omega)]
  exact BY (by omega)
 unfold Addr.L at key
 by_cases h6:a.V6=true
 ·rw[if_pos h6]
  rw[if_pos h6] at key
  exact key 16 rfl
 rw[if_neg h6]
 rw[if_neg h6] at key
 exact key 4 rfl
theorem cj (d:List UInt8)(h:d.length<=2048):(Dc [⟨128,15,d⟩]).2=0/\(Dc [⟨128,15,d⟩]).1=F7 [⟨128,15,d⟩]\/2044<d.length:=by
 by_cases q:2044<d.length
 ·exact .inr q
 left
 have hj:F7 [⟨128,15,d⟩]=PY ⟨128,15,d⟩:=by unfold F7;rw[List.flatMap_cons,List.flatMap_nil,List.append_nil]
 have hl:=Qc ⟨128,15,d⟩
 have hk:([⟨128,15,d⟩]:List JAA).all okJ=true:=by
  unfold okJ
  simp only[List.all_cons,List.all_nil,Bool.and_true]
  simp
  omega
 dsimp only at hl
 unfold Dc
 rw[if_pos hk,hj,if_neg (by omega)]
 exact⟨rfl,rfl⟩
theorem aB {l:List JAD}(h :∀p∈l,CB p)(hl:l.length<=40):Fp ⟨l,eA,[]⟩=true:=by
 have c1:=Cc (six:=true) h
 have c2:=Cc (six:=false) h
 have hlen :∀a:List UInt8,(Kw ⟨l,eA,[]⟩ a).length=4+(A6 false l).length+a.length:=fun a=>by
  unfold Kw
  have t :∀n,(two n).length=2:=fun n=>rfl
  have z:(A6 false ([]:List JAD)).length=0:=rfl
  simp only[X11,t]
  rw[z]
  omega
 have e2:Eg ⟨l,eA,[]⟩=if 0<(A6 true l).length then [x15 ⟨l,eA,[]⟩] else []:=by
  rw[Xy,YE]
  rfl
 have hp:(EI ⟨l,eA,[]⟩).2=0/\(EI ⟨l,eA,[]⟩).1.length<=4077:=by
  unfold EI
  rw[e2]
  split
  ·have hd:(x15 ⟨l,eA,[]⟩).Data.length=3+(A6 true l).length:=by unfold x15;simp only[X11,X12,X13]
   have hx:x15 ⟨l,eA,[]⟩=⟨128,15,(x15 ⟨l,eA,[]⟩).Data⟩:=rfl
   rw[hx]
   rcases cj (x15 ⟨l,eA,[]⟩).Data (by omega) with ⟨j1,j2⟩|q
   ·rw[j1,if_neg (by decide)]
    refine⟨rfl,?_⟩
    dsimp only
    rw[hlen,j2]
    have:=Qc (x15 ⟨l,eA,[]⟩)
    have e:F7 [⟨128,15,(x15 ⟨l,eA,[]⟩).Data⟩]=PY (x15 ⟨l,eA,[]⟩):=by unfold F7;rw[List.flatMap_cons,List.flatMap_nil,List.append_nil];rfl
    rw[e]
    omega
   omega
  have j:Dc []=([],0):=rfl
  rw[j,if_neg (by decide)]
  refine⟨rfl,?_⟩
  dsimp only
  rw[hlen,X13]
  omega
 have hE:isE eA=true:=(UM eA).2 rfl
 unfold Fp Ws
 rw[hp.1]
 dsimp only
 rw[decide_eq_true (p:=l.length<=256) (by omega),List.append_nil,List.all_eq_true.2 (fun p hp=>(HE p).2.2 (h p hp)),hE,decide_eq_true (p:=(EI ⟨l,eA,[]⟩).1.length<=4077) hp.2]
 rfl
theorem Wh {lo:UInt64}(h:lo.toNat<4294967296):(⟨false,0,lo⟩:Addr).ok=true:=
 Xv (x:=(((0:UInt64).toNat:Int)==0)) (y:=decide ((lo.toNat:Int)<4294967296)) (by simp) (decide_eq_true (by omega))
theorem ok6 (hi lo:UInt64):(⟨true,hi,lo⟩:Addr).ok=true:=by unfold Addr.ok;simp only[cond_true]
theorem PK {x:Int}(h0:0<=x)(h1:x<4294967296):(AW x).toNat<4294967296:=by
 obtain⟨k,rfl⟩ :∃k:Nat,x=k:=⟨x.toNat,by omega⟩
 rw[BP]
 simp only[UInt64.toNat_ofNat']
 omega
theorem Pn {d:JAI}(hd:Dk d):Ok (E2 d) fun r=>r.1.ok=true/\Dk r.2:=by
 unfold E2
 refine .bind (AL hd (by omega)) ?_
 rintro⟨c,d⟩ ⟨c1,c2,hd⟩
 dsimp only at c1 c2 hd ⊢
 refine .ite (fun _=>.bind (AL hd (by omega)) ?_) fun _=>.ite (fun _=>.bind (AL hd (by omega)) ?_) fun _=>.ite (fun _=>.bind (AL hd (by omega)) ?_) fun _=>.ite (fun _=>.bind (AL hd (by omega)) ?_) fun _=>.ite (fun _=>.bind (AL hd (by omega)) ?_) fun _=>.bind (AL hd (by omega)) ?_
 ·rintro⟨v,d⟩ ⟨v1,v2,hd⟩
  dsimp only at v1 v2 hd ⊢
  refine .bind (AL hd (by omega)) ?_
  rintro⟨u,d⟩ ⟨u1,u2,hd⟩
  dsimp only at u1 u2 hd ⊢
  refine .ret ⟨Wh ?_,hd⟩
  have e1:v*(2^(min (Int.toNat 8) 64))=v*256:=rfl
  rw[e1,AO (x:=v*256) (by omega),AO (x:=167772160+v*256) (by omega),AO (by omega)]
  exact PK (by omega) (by omega)
 ·rintro⟨v,d⟩ ⟨v1,v2,hd⟩
  dsimp only at v1 v2 hd ⊢
  refine .bind (AL hd (by omega)) ?_
  rintro⟨u,d⟩ ⟨u1,u2,hd⟩
  exact .ret ⟨ok6 _ _,hd⟩
 ·rintro⟨v,d⟩ ⟨v1,v2,hd⟩
  dsimp only at v1 v2 hd ⊢
  refine .bind (.geti (by simp;omega)) fun x hx=>.ret ⟨Wh ?_,hd⟩
  have:=hx.1
  simp only[List.mem_cons,List.not_mem_nil,or_false] at this
  rcases this with rfl | rfl | rfl | rfl | rfl<;>decide
 ·rintro⟨v,d⟩ ⟨v1,v2,hd⟩
  dsimp only at v1 v2 hd ⊢
  refine .bind (.geti (by simp;omega)) fun x hx=>.bind (AL hd (by omega)) ?_
  rintro⟨u,d⟩ ⟨u1,u2,hd⟩
  dsimp only at u1 u2 hd ⊢
  exact .bind (.geti (by simp;omega)) fun y hy=>.ret ⟨ok6 _ _,hd⟩
 ·rintro⟨v,d⟩ ⟨v1,v2,hd⟩
  dsimp only at v1 v2 hd ⊢
  refine .bind (AL hd (by omega)) ?_
  rintro⟨u,d⟩ ⟨u1,u2,hd⟩
  dsimp only at u1 u2 hd ⊢
  refine .bind (AL hd (by omega)) ?_
  rintro⟨u,d⟩ ⟨u1,u2,hd⟩
  dsimp only at u1 u2 hd ⊢
  refine .bind (AL hd (by omega)) ?_
  rintro⟨u,d⟩ ⟨u1,u2,hd⟩
  exact .ret ⟨ok6 _ _,hd⟩
 rintro⟨v,d⟩ ⟨v1,v2,hd⟩
 dsimp only at v1 v2 hd ⊢
 exact .ret ⟨Wh (PK (by omega) (by omega)),hd⟩
theorem IS {d:JAI}(hd:Dk d):Ok (DX d) fun r=>CB r.1/\Dk r.2:=by
 unfold DX
 refine .bind (Pn hd) ?_
 rintro⟨a,d⟩ ⟨ha,hd⟩
 dsimp only at ha hd ⊢
 rw[I3]
 have hw:(if a.V6=true then (128:Int) else 32)=a.w:=by unfold Addr.w;split<;>rfl
 have hwb:a.w=128\/a.w=32:=by unfold Addr.w;split<;>simp
 rw[hw]
 refine .bind (AL hd (by omega)) ?_
 rintro⟨c,d⟩ ⟨c1,c2,hd⟩
 dsimp only at c1 c2 hd ⊢
 refine .join (fun p:Int×JAI=>(0<=p.1/\p.1<=a.w)/\Dk p.2) (fun k hk=>?_) ?_
 ·refine .ite (fun _=>?_) fun _=>?_
  ·rw[AO (x:=(a.w:Int)+1) (by omega)]
   refine .bind (AL hd (by omega)) ?_
   rintro⟨v,d⟩ ⟨v1,v2,hd⟩
   exact hk _ ⟨by simp only at v1 v2 ⊢;omega,hd⟩
  refine .join (fun p:Int×JAI=>(0<=p.1/\p.1<=a.w)/\Dk p.2) (fun k2 hk2=>.ite (fun _=>.bind (AL hd (by omega)) ?_) fun _=>?_) ?_
  ·rintro⟨v,d⟩ ⟨v1,v2,hd⟩
   dsimp only at v1 v2 hd ⊢
   rw[AO (by omega)]
   exact hk2 _ ⟨by simp only;omega,hd⟩
  ·refine .join (fun p:Int×JAI=>(0<=p.1/\p.1<=a.w)/\Dk p.2) (fun k3 hk3=>.ite (fun _=>.bind (AL hd (by omega)) ?_) fun _=>hk3 _ ⟨by simp only;omega,hd⟩) ?_
   ·rintro⟨v,d⟩ ⟨v1,v2,hd⟩
    dsimp only at v1 v2 hd ⊢
    refine .bind (.geti (by simp;omega)) fun x hx=>hk3 _ ⟨?_,hd⟩
    have:=hx.1
    simp only[List.mem_cons,List.not_mem_nil,or_false] at this
    simp only
    rcases this with rfl | rfl | rfl | rfl | rfl<;>omega
   rintro⟨v,d⟩ h;exact hk2 _ h
  rintro⟨v,d⟩ h;exact hk _ h
 rintro⟨v,d⟩ ⟨⟨v1,v2⟩,hd⟩
 dsimp only at v1 v2 hd ⊢
 obtain⟨r,e,h1,h2⟩:=IZ a v
 rw[h1,AC]
 rcases h2 with ⟨_,rfl,rfl⟩|⟨h3,_⟩
 ·exact .ret ⟨VG ha v1 v2,hd⟩
 exact absurd ⟨ha,v1,v2⟩ h3
def WrJ {ρ:Type}(a:JAE)(K:Int×List JAA->Option ρ):Option ρ:=
 AI (τ:=Int×(List JAA)) (fun k1=>
  Option.bind (DD a) fun v2=>
  if (!v2) then
   k1 (1,[])
  else
   AI (τ:=(List JAA)) (fun k3=>
    AI (τ:=(List JAA)) (fun k4=>
     if (a.Origin != (-1)) then
      Option.bind (some (Option.getD (BB Bl 1) 0)) fun v5=>
      Option.bind (apnd (α:=JAA) 40 [] ([(⟨v5,1,([(Ao a.Origin)]:List UInt8)⟩:JAA)]:List JAA)) fun _=>
      k4 ([(⟨v5,1,([(Ao a.Origin)]:List UInt8)⟩:JAA)]:List JAA)
     else
      k4 []
    ) fun v6=>
    k3 v6
   ) fun v7=>
   AI (τ:=(List JAA)) (fun k8=>
    if (a.Origin != (-1)) then
     Option.bind (BZ a.Path) fun v9=>
     AI (τ:=(List JAA)) (fun k10=>
      Option.bind (some (Option.getD (BB Bl 2) 0)) fun v11=>
      Option.bind (apnd (α:=JAA) 40 v7 ([(⟨v11,2,v9⟩:JAA)]:List JAA)) fun v12=>
      k10 v12
     ) fun v13=>
     k8 v13
    else
     Option.bind (BZ a.Path) fun v14=>
     AI (τ:=(List JAA)) (fun k15=>
      AI (τ:=(List JAA)) (fun k16=>
       if (cond false true (decide ((a.Path.length:Int) > 0))) then
        Option.bind (some (Option.getD (BB Bl 2) 0)) fun v17=>
        Option.bind (apnd (α:=JAA) 40 v7 ([(⟨v17,2,v14⟩:JAA)]:List JAA)) fun v18=>
        k16 v18
       else
        k16 v7
      ) fun v19=>
      k15 v19
     ) fun v20=>
     k8 v20
   ) fun v21=>
   AI (τ:=(List JAA)) (fun k22=>
    if (!a.Next.V6) then
     Option.bind (BN a.Next) fun v23=>
     AI (τ:=(List JAA)) (fun k24=>
      AI (τ:=(List JAA)) (fun k25=>
       if (cond true (!(Addr.eqd a.Next (⟨false,(0:UInt64),(0:UInt64)⟩:Addr))) false) then
        Option.bind (some (Option.getD (BB Bl 3) 0)) fun v26=>
        Option.bind (apnd (α:=JAA) 40 v21 ([(⟨v26,3,v23⟩:JAA)]:List JAA)) fun v27=>
        k25 v27
       else
        k25 v21
      ) fun v28=>
      k24 v28
     ) fun v29=>
     k22 v29
    else
     Option.bind (BN a.Next) fun v30=>
     AI (τ:=Unit) (fun k31=>
      k31 ()
     ) fun _=>
     k22 v21
   ) fun v32=>
   Option.bind (BK ([a.MED]:List Int)) fun v33=>
   AI (τ:=(List JAA)) (fun k34=>
    AI (τ:=(List JAA)) (fun k35=>
     if (a.MED != (-1)) then
      Option.bind (some (Option.getD (BB Bl 4) 0)) fun v36=>
      Option.bind (apnd (α:=JAA) 40 v32 ([(⟨v36,4,v33⟩:JAA)]:List JAA)) fun v37=>
      k35 v37
     else
      k35 v32
    ) fun v38=>
    k34 v38
   ) fun v39=>
   Option.bind (BK ([a.Pref]:List Int)) fun v40=>
   AI (τ:=(List JAA)) (fun k41=>
    AI (τ:=(List JAA)) (fun k42=>
     if (a.Pref != (-1)) then
      Option.bind (some (Option.getD (BB Bl 5) 0)) fun v43=>
      Option.bind (apnd (α:=JAA) 40 v39 ([(⟨v43,5,v40⟩:JAA)]:List JAA)) fun v44=>
      k42 v44
     else
      k42 v39
    ) fun v45=>
    k41 v45
   ) fun v46=>
   Option.bind (Br a.Communities) fun v47=>
   AI (τ:=(List JAA)) (fun k48=>
    AI (τ:=(List JAA)) (fun k49=>
     if (decide ((a.Communities.length:Int) > 0)) then
      Option.bind (some (Option.getD (BB Bl 8) 0)) fun v50=>
      Option.bind (apnd (α:=JAA) 40 v46 ([(⟨v50,8,v47⟩:JAA)]:List JAA)) fun v51=>
      k49 v51
     else
      k49 v46
    ) fun v52=>
    k48 v52
   ) fun v53=>
   Option.bind (Do a.JAF) fun v54=>
   AI (τ:=(List JAA)) (fun k55=>
    AI (τ:=(List JAA)) (fun k56=>
     if (decide ((a.JAF.length:Int) > 0)) then
      Option.bind (some (Option.getD (BB Bl 32) 0)) fun v57=>
      Option.bind (apnd (α:=JAA) 40 v53 ([(⟨v57,32,v54⟩:JAA)]:List JAA)) fun v58=>
      k56 v58
     else
      k56 v53
    ) fun v59=>
    k55 v59
   ) fun v60=>
   Option.bind (BK ([a.OTC]:List Int)) fun v61=>
   AI (τ:=(List JAA)) (fun k62=>
    AI (τ:=(List JAA)) (fun k63=>
     if (a.OTC != (-1)) then
      Option.bind (some (Option.getD (BB Bl 35) 0)) fun v64=>
      Option.bind (apnd (α:=JAA) 40 v60 ([(⟨v64,35,v61⟩:JAA)]:List JAA)) fun v65=>
      k63 v65
     else
      k63 v60
    ) fun v66=>
    k62 v66
   ) fun v67=>
   AI (τ:=(List JAA)) (fun k68=>
    An (σ:=(List JAA)) (fun v69=>
     k68 v69
    ) (fun next70 (x71:JAA) i72 v69=>
     Option.bind (A5 x71.Data) fun v73=>
     Option.bind (apnd (α:=JAA) 40 v69 ([{ x71 with Data:=v73 }]:List JAA)) fun v74=>
     next70 v74
    ) a.Other 0 v67
   ) fun v75=>
   Option.bind (EM C5 v75) fun v76=>
   k1 (0,v76)
 ) K
theorem W9 {a:JAE}(v:VA a){ρ:Type}(K:Int×List JAA->Option ρ):WrJ a K=K (0,wrS a):=by
 have hs:=IT v.p
 have hc:=(Fq.1 v.c)
 have hl:=(Fh.1 v.l).2.2
 unfold WrJ
 rw[AH,QW v.sm,AC,Ju.2 v,if_neg (by decide)]
 have s1 :∀{ρ:Type} (q:List JAA->Option ρ),AI (τ:=(List JAA)) (fun k2=>
   AI (τ:=(List JAA)) (fun k3=>
    if (a.Origin != (-1))=true then
     Option.bind (some (Option.getD (BB Bl 1) 0)) fun v4=>
     Option.bind (apnd (α:=JAA) 40 [] ([(⟨v4,1,([(Ao a.Origin)]:List UInt8)⟩:JAA)]:List JAA)) fun _=>
     k3 ([(⟨v4,1,([(Ao a.Origin)]:List UInt8)⟩:JAA)]:List JAA)
    else
     k3 []
   ) fun v5=>
   k2 v5
  ) q=q (ent a 1):=by
  intro ρ q
  have hG:G a 1=if a.Origin≠-1 then some [Ao a.Origin] else none:=rfl
  unfold ent
  rw[AH,AH,LA,hG]
  by_cases h:a.Origin=-1
  ·rw[if_neg (by simp[h]),if_neg (by simp[h])]
  rw[if_pos (by simpa using h),if_pos h,AC,AP (by decide) (by simp),AC]
 rw[s1]
 have hpath:BZ a.Path=some (LR a.Path):=YI (by omega)
 have s2 :∀{ρ:Type} (w:List JAA) (hw:w.length<=1) (q:List JAA->Option ρ),AI (τ:=(List JAA)) (fun k7=>
   if (a.Origin != (-1))=true then
    Option.bind (BZ a.Path) fun v8=>
    AI (τ:=(List JAA)) (fun k9=>
     Option.bind (some (Option.getD (BB Bl 2) 0)) fun v10=>
     Option.bind (apnd (α:=JAA) 40 w ([(⟨v10,2,v8⟩:JAA)]:List JAA)) fun v11=>
     k9 v11
    ) fun v12=>
    k7 v12
   else
    Option.bind (BZ a.Path) fun v13=>
    AI (τ:=(List JAA)) (fun k14=>
     AI (τ:=(List JAA)) (fun k15=>
      if (cond false true (decide ((a.Path.length:Int) > 0)))=true then
       Option.bind (some (Option.getD (BB Bl 2) 0)) fun v16=>
       Option.bind (apnd (α:=JAA) 40 w ([(⟨v16,2,v13⟩:JAA)]:List JAA)) fun v17=>
       k15 v17
      else
       k15 w
     ) fun v18=>
     k14 v18
    ) fun v19=>
    k7 v19
  ) q=q (w++ent a 2):=by
  intro ρ w hw q
  have hG:G a 2=if a.Origin≠-1\/a.Path≠[] then some (LR a.Path) else none:=rfl
  have e:(a.Path≠[])↔0<a.Path.length:=List.length_pos_iff.symm
  unfold ent
  rw[AH,hpath,LA,hG]
  by_cases h:a.Origin=-1
  ·rw[if_neg (by simp[h]),AC,AH,AH,cond_false]
   by_cases h2:0<a.Path.length
   ·rw[if_pos (by simp only[decide_eq_true_eq];omega),if_pos (.inr (e.2 h2)),AC,AP (by decide) (by simp;omega),AC]
   rw[if_neg (by simp only[decide_eq_true_eq];omega),if_neg (by rw[e];omega),List.append_nil]
  rw[if_pos (by simpa using h),if_pos (.inl h),AC,AH,AC,AP (by decide) (by simp;omega),AC]
 have l1:=Gv a 1
 have l2:=Gv a 2
 have l3:=Gv a 3
 have l4:=Gv a 4
 have l5:=Gv a 5
 have l8:=Gv a 8
 have l32:=Gv a 32
 refine (s2 _ (by omega) _).trans ?_
 have s3 :∀{ρ:Type} (w:List JAA) (hw:w.length<=2) (q:List JAA->Option ρ),AI (τ:=(List JAA)) (fun k21=>
   if (!a.Next.V6)=true then
    Option.bind (BN a.Next) fun v22=>
    AI (τ:=(List JAA)) (fun k23=>
     AI (τ:=(List JAA)) (fun k24=>
      if (cond true (!(Addr.eqd a.Next (⟨false,(0:UInt64),(0:UInt64)⟩:Addr))) false)=true then
       Option.bind (some (Option.getD (BB Bl 3) 0)) fun v25=>
       Option.bind (apnd (α:=JAA) 40 w ([(⟨v25,3,v22⟩:JAA)]:List JAA)) fun v26=>
       k24 v26
      else
       k24 w
     ) fun v27=>
     k23 v27
    ) fun v28=>
    k21 v28
   else
    Option.bind (BN a.Next) fun v29=>
    AI (τ:=Unit) (fun k30=>
     k30 ()
    ) fun _=>
    k21 w
  ) q=q (w++ent a 3):=by
  intro ρ w hw q
  have hG:G a 3=if Hf a=true then some (b4 a.Next.Lo.toNat) else none:=rfl
  unfold ent
  rw[AH,LA,hG]
  unfold Hf
  cases h6:a.Next.V6
  ·rw[if_pos (by rfl),W5 v.n h6,AC,AH,AH]
   cases Addr.eqd a.Next ⟨false,0,0⟩
   ·rw[if_pos (by rfl),if_pos (by rfl),AC,AP (by decide) (by simp;omega),AC]
   rw[if_neg (by decide),if_neg (by decide),List.append_nil]
  obtain⟨r,hr⟩:=Ze a.Next
  rw[if_neg (by decide),hr,AC,AH,if_neg (by simp),List.append_nil]
 refine (s3 _ (by rw[X11];omega) _).trans ?_
 rw[L0,AC]
 have en :∀(k:Int) (c:Bool) (d:List UInt8),G a k=(if c=true then some d else none)->(if c=true then [(⟨fl k,k,d⟩:JAA)] else [])=ent a k:=by
  intro k c d h
  unfold ent
  rw[h]
  cases c<;>rfl
 have c4:G a 4=if (a.MED != (-1))=true then some (w4 a.MED) else none:=by
  have:G a 4=if a.MED≠-1 then some (w4 a.MED) else none:=rfl
  rw[this];simp only[bne_iff_ne]
 have c5:G a 5=if (a.Pref != (-1))=true then some (w4 a.Pref) else none:=by
  have:G a 5=if a.Pref≠-1 then some (w4 a.Pref) else none:=rfl
  rw[this];simp only[bne_iff_ne]
 have c35:G a 35=if (a.OTC != (-1))=true then some (w4 a.OTC) else none:=by
  have:G a 35=if a.OTC≠-1 then some (w4 a.OTC) else none:=rfl
  rw[this];simp only[bne_iff_ne]
 have c8:G a 8=if decide ((a.Communities.length:Int) > 0)=true then some (a.Communities.flatMap J9) else none:=by
  have:G a 8=if a.Communities≠[] then some (a.Communities.flatMap J9) else none:=rfl
  rw[this]
  cases a.Communities with
  | nil=>rfl
  | cons x t=>rw[if_pos (by simp),if_pos (by simp)]
 have c32:G a 32=if decide ((a.JAF.length:Int) > 0)=true then some (a.JAF.flatMap Ig) else none:=by
  have:G a 32=if a.JAF≠[] then some (a.JAF.flatMap Ig) else none:=rfl
  rw[this]
  cases a.JAF with
  | nil=>rfl
  | cons x t=>rw[if_pos (by simp),if_pos (by simp)]
 refine (aZ (f:=fl 4) rfl (by simp only[X11];omega)).trans ?_
 rw[en 4 _ _ c4,L0,AC]
 refine (aZ (f:=fl 5) rfl (by simp only[X11];omega)).trans ?_
 rw[en 5 _ _ c5,XQ hc.1 (by omega),AC]
 refine (aZ (f:=fl 8) rfl (by simp only[X11];omega)).trans ?_
 rw[en 8 _ _ c8,XV (by omega),AC]
 refine (aZ (f:=fl 32) rfl (by simp only[X11];omega)).trans ?_
 rw[en 32 _ _ c32,L0,AC]
 refine (aZ (f:=fl 35) rfl (by simp only[X11];omega)).trans ?_
 rw[en 35 _ _ c35]
 have l35:=Gv a 35
 refine (cg (by have:=v.e;omega) v.sm.d (by simp only[X11];omega)).trans ?_
 have e:ent a 1++ent a 2++ent a 3++ent a 4++ent a 5++ent a 8++ent a 32++ent a 35++a.Other=PZ a:=by
  unfold PZ On
  simp only[List.flatMap_cons,List.flatMap_nil,List.append_nil,List.append_assoc]
 rw[e,SH v.O (by unfold PZ;rw[X11];have:=RN a;have:=v.e;omega),AC]
end Go.AX.Q19
end
