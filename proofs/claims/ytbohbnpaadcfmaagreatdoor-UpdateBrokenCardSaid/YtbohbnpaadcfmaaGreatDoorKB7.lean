/-
  Texts of one proof, packed.
-/
import Derived.Test.YtbohbnpaadcfmaaGreatDoorKB6
set_option linter.all false
set_option maxRecDepth 100000
set_option maxHeartbeats 4000000
open List renaming length_append→X11,length_cons→X12,length_nil→X13,mem_singleton→X14,getElem?_eq_some_iff→X16,length_drop→X17,length_take→X18,mem_cons_of_mem→X19,length_replicate→X20,length_singleton→X22,mem_append→X23
open Option.some renaming injEq→X24,inj→X25
open Bool renaming and_eq_true→X27,eq_iff_iff→X28
open Nat renaming mul_le_mul_right→X31,add_mul→X32
section
namespace Go.AX.Q19
open Go Go.AX
theorem RE {v n:Int}(hn:1<=n/\n<=4611686018427387904):Ok (KP v n) fun r=>0<=r/\r<n:=by
 unfold KP
 have h1:=Int.tmod_lt_of_pos v (show 0<n by omega)
 have h2:-n<Int.tmod v n:=by
  have:=Int.lt_tmod_of_pos v (show 0<n by omega)
  exact this
 refine .bind (.chk (by omega)) fun _ _=>.join (fun r=>0<=r/\r<n) (fun k hk=>.ite (fun hc=>hk _ ?_) fun hc=>hk _ ?_) fun r hr=>.ret hr
 ·simp only[decide_eq_true_eq] at hc
  rw[AP (by omega)]
  omega
 simp only[decide_eq_true_eq] at hc
 omega
theorem AM {d:JAI}{n:Int}(hd:Dk d)(hn:1<=n/\n<=4611686018427387904):Ok (AL d n) fun r=>0<=r.1/\r.1<n/\Dk r.2:=by
 obtain⟨h1,h2⟩:=hd
 unfold AL
 refine .ite (fun _=>.ret ⟨by simp,by simp;omega,h1,h2⟩) fun h=>?_
 simp only[decide_eq_true_eq] at h
 have e:AI (AI (d.At+1)-1)=d.At:=by rw[AP (x:=d.At+1) (by omega),AP (by omega)];omega
 rw[e,AP (x:=d.At+1) (by omega)]
 refine .bind (.geti (by omega)) fun v _=>.bind (RE hn) fun r hr=>.ret ⟨hr.1,hr.2,by simp only;omega,h2⟩
theorem N6 {d:JAI}{n:Int}(hd:Dk d)(hn:0<=n/\n<=1000):Ok (EZ d n) fun r=>(r.1.length:Int)<=n/\Dk r.2:=by
 unfold EZ
 rw[AP (by omega)]
 refine .bind (AM hd (by omega)) ?_
 rintro⟨v,d⟩ ⟨v1,v2,hd⟩
 dsimp only at v1 v2 hd ⊢
 refine .join (fun p:JAI×List UInt8=>Dk p.1/\(p.2.length:Int)<=n) (fun k hk=>?_) fun p hp=>.ret ⟨hp.2,hp.1⟩
 refine .whileI (fun s:Int×JAI×List UInt8=>0<=s.1/\s.1+s.2.2.length<=n/\Dk s.2.1) (fun s=>s.1.toNat) ⟨v1,by simp only[X13];omega,hd⟩ (CE (by simp only;omega)) ?_
 rintro next ⟨c,d,l⟩ ⟨h1,h2,h3⟩ hnx
 dsimp only at h1 h2 h3 ⊢
 refine .ite (fun h=>?_) fun h=>hk (d,l) ⟨h3,by dsimp only;omega⟩
 simp only[decide_eq_true_eq] at h
 refine .bind (AM h3 (by omega)) ?_
 rintro⟨w,d⟩ ⟨w1,w2,hd⟩
 dsimp only at w1 w2 hd ⊢
 refine .bind (Ok.apnd (by decide) (by simp;omega)) fun l2 hl2=>?_
 rw[AP (by omega)]
 exact hnx _ ⟨by dsimp only;omega,by rw[hl2];simp only[X11,X22];omega,hd⟩ (by dsimp only;omega)
theorem RO {d:JAI}(hd:Dk d):Ok (Ff d) fun r=>Dk r.2:=by
 unfold Ff
 refine .bind (AM hd (by omega)) ?_
 rintro⟨v,d⟩ ⟨v1,v2,hd⟩
 refine .bind (AM hd (by omega)) ?_
 rintro⟨w,d⟩ ⟨w1,w2,hd⟩
 refine .bind (AM hd (by omega)) ?_
 rintro⟨u,d⟩ ⟨u1,u2,hd⟩
 exact .bind (.geti (by simp only[X12,X13];omega)) fun x _=>.ret hd
theorem PT {d:JAI}(hd:Dk d):Ok (FH d) fun r=>(r.1.length<=3/\tot r.1<=12/\F5 r.1=true)/\Dk r.2:=by
 unfold FH
 refine .bind (AM hd (by omega)) ?_
 rintro⟨v,d⟩ ⟨v1,v2,hd⟩
 dsimp only at v1 v2 hd ⊢
 refine .join (fun p:JAI×List JAE=>(p.2.length<=3/\tot p.2<=12/\F5 p.2=true)/\Dk p.1) (fun k hk=>?_) fun p hp=>.ret hp
 refine .whileI (fun s:Int×JAI×List JAE=>(0<=s.1/\s.1+s.2.2.length<=3/\4*s.1+tot s.2.2<=12/\F5 s.2.2=true)/\Dk s.2.1) (fun s=>s.1.toNat) ⟨⟨v1,by simp only[X13];omega,by simp only[tot,List.foldl_nil];omega,rfl⟩,hd⟩ (CE (by simp only;omega)) ?_
 rintro next ⟨c,d,p⟩ ⟨⟨h1,h2,h3,h4⟩,hd⟩ hnx
 dsimp only at h1 h2 h3 h4 hd ⊢
 refine .ite (fun h=>?_) fun h=>hk (d,p) ⟨⟨by dsimp only;omega,by dsimp only;omega,h4⟩,hd⟩
 simp only[decide_eq_true_eq] at h
 refine .join (fun q:JAI×List JAE=>(q.2.length<=p.length+1/\tot q.2<=tot p+4/\F5 q.2=true)/\Dk q.1) (fun k8 hk8=>?_) ?_
 rotate_left
 ·rintro⟨d,q⟩ ⟨⟨q1,q2,q3⟩,hd⟩
  dsimp only at q1 q2 q3 hd ⊢
  rw[AP (by omega)]
  exact hnx _ ⟨⟨by dsimp only;omega,by dsimp only;omega,by dsimp only;omega,q3⟩,hd⟩ (by dsimp only;omega)
 refine .join (fun q:Bool×JAI=>Dk q.2) (fun k9 hk9=>?_) ?_
 ·refine .ite (fun hl=>?_) fun _=>.bind (AM hd (by omega)) fun r hr=>hk9 _ hr.2.2
  simp only[decide_eq_true_eq] at hl
  rw[AP (by omega)]
  exact .bind (.geti (by omega)) fun s _=>.ite (fun _=>hk9 _ hd) fun _=>.bind (AM hd (by omega)) fun r hr=>hk9 _ hr.2.2
 rintro⟨set,d⟩ hd
 dsimp only at hd ⊢
 refine .bind (AM hd (by omega)) ?_
 rintro⟨n,d⟩ ⟨n1,n2,hd⟩
 dsimp only at n1 n2 hd ⊢
 rw[AP (x:=1+n) (by omega)]
 refine .join (fun q:JAI×List Int=>q.2.length<=4/\Dk q.1) (fun k19 hk19=>?_) ?_
 ·refine .whileI (fun s:Int×JAI×List Int=>(0<=s.1/\s.1+s.2.2.length<=4)/\Dk s.2.1) (fun s=>s.1.toNat) ⟨⟨by dsimp only;omega,by simp only[X13];omega⟩,hd⟩ (CE (by simp only;omega)) ?_
  rintro next ⟨m,d,l⟩ ⟨⟨m1,m2⟩,hd⟩ hnx
  dsimp only at m1 m2 hd ⊢
  refine .ite (fun hm=>?_) fun _=>hk19 (d,l) ⟨by dsimp only;omega,hd⟩
  simp only[decide_eq_true_eq] at hm
  refine .join (fun q:JAI×List Int=>q.2.length<=l.length+1/\Dk q.1) (fun k24 hk24=>?_) ?_
  ·refine .bind (RO hd) ?_
   rintro⟨x,d⟩ hd
   dsimp only at hd ⊢
   refine .ite (fun _=>.bind (Ok.apnd (by decide) (by simp;omega)) fun r hr=>hk24 (d,r) ⟨by rw[hr];simp,hd⟩) fun _=>?_
   refine Ok.pos (n:=l.length) (by omega) (fun k' w w1 w2 hk'=>.ite (fun hw=>?_) fun _=>hk' _ (by simp)) fun w w1 w2=>?_
   ·simp only[decide_eq_true_eq] at hw
    exact .bind (.geti (by omega)) fun y _=>hk' _ fun _=>hw
   refine .join (fun _=>True) (fun k35 hk35=>.ite (fun _=>hk35 _ trivial) fun hw=>.bind (.geti ?_) fun y _=>hk35 _ trivial) fun b _=>?_
   ·simp only[beq_iff_eq] at hw
    omega
   refine .join (fun q:List Int=>q.length<=l.length+1) (fun k38 hk38=>.ite (fun _=>?_) fun _=>hk38 _ (by omega)) fun q hq=>hk24 (d,q) ⟨hq,hd⟩
   refine .bind (Ok.chk (by omega)) fun _ _=>.bind (Ok.apnd (by decide) (by simp;omega)) fun _ _=>.bind (Ok.apnd (by decide) (by simp;omega)) fun a ha=>.bind (Ok.chk (by omega)) fun _ _=>.bind (Ok.apnd (by decide) (by rw[ha];simp;omega)) fun b hb=>hk38 _ ?_
   rw[hb,ha]
   simp only[X11,X18,X17,X22]
   omega
  rintro⟨d,q⟩ ⟨q1,hd⟩
  dsimp only at q1 hd ⊢
  rw[AP (by omega)]
  exact hnx _ ⟨⟨by dsimp only;omega,by dsimp only;omega⟩,hd⟩ (by dsimp only;omega)
 rintro⟨d,l⟩ ⟨l1,hd⟩
 dsimp only at l1 hd ⊢
 refine .bind (Ok.apnd (by decide) (by simp;omega)) fun p2 hp2=>?_
 have ht:tot p2=tot p+l.length:=by rw[hp2,NM,EY];simp[tot]
 have hl2:p2.length=p.length+1:=by rw[hp2];simp
 rw[H4 (by omega) (by omega),AA]
 refine .join (fun q:List JAE=>q.length<=p.length+1/\tot q<=tot p+4/\F5 q=true) (fun k48 hk48=>.ite (fun _=>?_) fun hv=>hk48 p2 ⟨by omega,by omega,by simpa using hv⟩) fun q hq=>hk8 (d,q) ⟨hq,hd⟩
 rw[AP (by omega)]
 refine .bind (Ok.part (by omega)) fun q hq=>hk48 q ?_
 have e:q=p:=by
  rw[hq.1,hp2]
  have:(((p++[(⟨set,l⟩:JAE)]).length:Int)-1).toNat=p.length:=by simp
  rw[this]
  simp
 rw[e]
 exact⟨by omega,by omega,h4⟩
theorem W3 {l:List JAB}{c:JAB}(hv:EV l=true)(hc:okC c=true)(hl:l.length<64):EV (if l.any (fun y=>JAB.eqd y c)=true then l else FB JO l c)=true/\(if l.any (fun y=>JAB.eqd y c)=true then l else FB JO l c).length<=l.length+1:=by
 split
 ·exact⟨hv,by omega⟩
 rename_i h
 obtain⟨h1,h2,h3⟩:=Ez.1 hv
 have hx:c∉l:=fun q=>h (List.any_eq_true.2 ⟨c,q,(Yu _ _).2 rfl⟩)
 rw[Ez,HA]
 refine⟨⟨fun y hy=>?_,IQ LG KB h2 hx,by omega⟩,by omega⟩
 rcases D8.1 hy with hy | rfl
 ·exact h1 y hy
 exact hc
theorem XE {l:List JAF}{c:JAF}(hv:ET l=true)(hc:okL c=true)(hl:l.length<64):ET (if l.any (fun y=>JAF.eqd y c)=true then l else FB JA l c)=true/\(if l.any (fun y=>JAF.eqd y c)=true then l else FB JA l c).length<=l.length+1:=by
 split
 ·exact⟨hv,by omega⟩
 rename_i h
 obtain⟨h1,h2,h3⟩:=FD.1 hv
 have hx:c∉l:=fun q=>h (List.any_eq_true.2 ⟨c,q,(Yq _ _).2 rfl⟩)
 rw[FD,HA]
 refine⟨⟨fun y hy=>?_,IQ LH KY h2 hx,by omega⟩,by omega⟩
 rcases D8.1 hy with hy | rfl
 ·exact h1 y hy
 exact hc
theorem JY {d:JAI}(hd:Dk d):Ok (Cd d) fun r=>(EV r.1=true/\r.1.length<=4)/\(ET r.2.1=true/\r.2.1.length<=3)/\Dk r.2.2:=by
 unfold Cd
 refine .bind (AM hd (by omega)) ?_
 rintro⟨v,d⟩ ⟨v1,v2,hd⟩
 dsimp only at v1 v2 hd ⊢
 refine .join (fun p:List JAB×JAI=>(EV p.1=true/\p.1.length<=4)/\Dk p.2) (fun k hk=>?_) ?_
 ·refine .whileI (fun s:List JAB×Int×JAI=>(EV s.1=true/\0<=s.2.1/\s.2.1+s.1.length<=4)/\Dk s.2.2) (fun s=>s.2.1.toNat) ⟨⟨rfl,v1,by simp only[X13];omega⟩,hd⟩ (CE (by simp only;omega)) ?_
  rintro next ⟨l,c,d⟩ ⟨⟨h1,h2,h3⟩,hd⟩ hnx
  dsimp only at h1 h2 h3 hd ⊢
  refine .ite (fun h=>?_) fun _=>hk (l,d) ⟨⟨h1,by dsimp only;omega⟩,hd⟩
  simp only[decide_eq_true_eq] at h
  refine .bind (AM hd (by omega)) ?_
  rintro⟨a,d⟩ ⟨a1,a2,hd⟩
  dsimp only at a1 a2 hd ⊢
  refine .bind (.geti (by simp only[X12,X13];omega)) fun x hx=>.bind (AM hd (by omega)) ?_
  rintro⟨b,d⟩ ⟨b1,b2,hd⟩
  dsimp only at b1 b2 hd ⊢
  refine .bind (AM hd (by omega)) ?_
  rintro⟨e,d⟩ ⟨e1,e2,hd⟩
  dsimp only at e1 e2 hd ⊢
  refine .bind (.geti (by simp only[X12,X13];omega)) fun y hy=>?_
  have hok:okC ⟨x,y⟩=true:=by
   have g1:=hx.1
   have g2:=hy.1
   rw[AP (by omega)] at g2
   simp only[List.mem_cons,List.not_mem_nil,or_false] at g1 g2
   simp only[okC,inR,X27,decide_eq_true_eq]
   omega
  have hadd:=W3 h1 hok (by omega)
  rw[UG h1 hok (by omega),AA,AP (by omega)]
  dsimp only
  exact hnx _ ⟨⟨hadd.1,by dsimp only;omega,by have:=hadd.2;dsimp only;omega⟩,hd⟩ (by dsimp only;omega)
 rintro⟨l,d⟩ ⟨hl,hd⟩
 dsimp only at hl hd ⊢
 refine .bind (AM hd (by omega)) ?_
 rintro⟨v,d⟩ ⟨v1,v2,hd⟩
 dsimp only at v1 v2 hd ⊢
 refine .join (fun p:List JAF×JAI=>(ET p.1=true/\p.1.length<=3)/\Dk p.2) (fun k hk=>?_) ?_
 ·refine .whileI (fun s:List JAF×Int×JAI=>(ET s.1=true/\0<=s.2.1/\s.2.1+s.1.length<=3)/\Dk s.2.2) (fun s=>s.2.1.toNat) ⟨⟨rfl,v1,by simp only[X13];omega⟩,hd⟩ (CE (by simp only;omega)) ?_
  rintro next ⟨l,c,d⟩ ⟨⟨h1,h2,h3⟩,hd⟩ hnx
  dsimp only at h1 h2 h3 hd ⊢
  refine .ite (fun h=>?_) fun _=>hk (l,d) ⟨⟨h1,by dsimp only;omega⟩,hd⟩
  simp only[decide_eq_true_eq] at h
  refine .bind (AM hd (by omega)) ?_
  rintro⟨a,d⟩ ⟨a1,a2,hd⟩
  dsimp only at a1 a2 hd ⊢
  refine .bind (.geti (by simp only[X12,X13];omega)) fun x hx=>.bind (AM hd (by omega)) ?_
  rintro⟨b,d⟩ ⟨b1,b2,hd⟩
  dsimp only at b1 b2 hd ⊢
  refine .bind (AM hd (by omega)) ?_
  rintro⟨e,d⟩ ⟨e1,e2,hd⟩
  dsimp only at e1 e2 hd ⊢
  have hok:okL ⟨x,b,e⟩=true:=by
   have g1:=hx.1
   simp only[List.mem_cons,List.not_mem_nil,or_false] at g1
   simp only[okL,inR,X27,decide_eq_true_eq]
   omega
  have hadd:=XE h1 hok (by omega)
  rw[M7 h1 hok (by omega),AA,AP (by omega)]
  dsimp only
  exact hnx _ ⟨⟨hadd.1,by dsimp only;omega,by have:=hadd.2;dsimp only;omega⟩,hd⟩ (by dsimp only;omega)
 rintro⟨m,d⟩ ⟨hm,hd⟩
 exact .ret ⟨hl,hm,hd⟩
def okO (x:JAA):Bool:=decide (1<=x.Type_/\x.Type_<=255)&&(unk x.Type_&&(decide (x.Flags=224)&&decide (x.Data.length<=255)))
def ltT (a b:JAA):Bool:=decide (a.Type_<b.Type_)
def EM (l:List JAA):Bool:=l.all okO&&chainB ltT l
def Gp (a:JAD):Bool:=EM a.Other&&(decide (-1<=a.Origin/\a.Origin<=2)&&(F5 a.Path&&(a.Next.ok&&(decide (-1<=a.MED/\a.MED<=4294967295)&&(decide (-1<=a.Pref/\a.Pref<=4294967295)&&((decide (a.OTC=-1) || KQ a.OTC)&&(EV a.Communities&&(ET a.JAF&&decide (a.Other.length<=8)))))))))
theorem WQ (a b c:JAA)(h1:ltT a b=true)(h2:ltT b c=true):ltT a c=true:=by simp only[ltT,decide_eq_true_eq] at *;omega
structure SmT (a:JAD):Prop where
 p:a.Path.length<=1000000
 t:tot a.Path<=1000000
 c:a.Communities.length<=1000000
 l:a.JAF.length<=1000000
 o:a.Other.length<=1000000
 d :∀u∈a.Other,u.Data.length<=1000000
theorem Oi {d:JAI}(hd:Dk d):Ok (Ec d) fun r=>(Gp r.1=true/\r.1.Path.length<=3/\tot r.1.Path<=12/\r.1.Communities.length<=4/\r.1.JAF.length<=3/\r.1.Other.length<=6/\∀u∈r.1.Other,u.Data.length<=9)/\Dk r.2:=by
 unfold Ec
 rw[AB]
 refine .bind (AM hd (by omega)) ?_
 rintro⟨o,d⟩ ⟨o1,o2,hd⟩
 dsimp only at o1 o2 hd ⊢
 refine .bind (PT hd) ?_
 rintro⟨p,d⟩ ⟨hp,hd⟩
 dsimp only at hp hd ⊢
 have e4:Ib 3=some ⟨false,(0:UInt64),(AW (3221225984+((AW (AI (1+3))).toNat:Int)))⟩:=rfl
 have e6:Ku 4=some ⟨true,(2306139568115548160:UInt64),(AW (AI (1+4)))⟩:=rfl
 rw[e4,AA,e6,AA]
 refine .bind (AM hd (by omega)) ?_
 rintro⟨x,d⟩ ⟨x1,x2,hd⟩
 dsimp only at x1 x2 hd ⊢
 refine .bind (.geti (by simp only[X12,X13];omega)) fun nx hnx=>?_
 have hnx:nx.ok=true:=by
  have:=hnx.1
  simp only[List.mem_cons,List.not_mem_nil,or_false] at this
  rcases this with rfl | rfl | rfl<;>decide
 refine .bind (AM hd (by omega)) ?_
 rintro⟨y,d⟩ ⟨y1,y2,hd⟩
 dsimp only at y1 y2 hd ⊢
 refine .bind (.geti (by simp only[X12,X13];omega)) fun med hmed=>?_
 refine .bind (AM hd (by omega)) ?_
 rintro⟨z,d⟩ ⟨z1,z2,hd⟩
 dsimp only at z1 z2 hd ⊢
 refine .bind (.geti (by simp only[X12,X13];omega)) fun pref hpref=>?_
 refine .bind (AM hd (by omega)) ?_
 rintro⟨w,d⟩ ⟨w1,w2,hd⟩
 dsimp only at w1 w2 hd ⊢
 refine .bind (.geti (by simp only[X12,X13];omega)) fun otc hotc=>?_
 refine .bind (JY hd) ?_
 rintro⟨cs,ls,d⟩ ⟨hcs,hls,hd⟩
 dsimp only at hcs hls hd ⊢
 refine .join (fun q:JAI×List JAA=>((∀u∈q.2,okO u=true/\u.Data.length<=9)/\q.2.Pairwise (fun a b=>ltT a b=true)/\q.2.length<=6)/\Dk q.1) (fun k23 hk23=>?_) ?_
 ·refine .forX (fun i s=>((∀u∈s.2,okO u=true/\u.Data.length<=9/\∃j,j<i/\([6,7,16,34,200,255]:List Int)[j]?=some u.Type_)/\s.2.Pairwise (fun a b=>ltT a b=true)/\s.2.length<=i)/\Dk s.1) ⟨⟨by simp,.nil,by simp⟩,hd⟩ (fun s hs=>hk23 s ⟨⟨fun u hu=>⟨(hs.1.1 u hu).1,(hs.1.1 u hu).2.1⟩,hs.1.2.1,hs.1.2.2⟩,hs.2⟩) ?_
  rintro next kind i ⟨d,l⟩ hkind ⟨⟨g1,g2,g3⟩,hd⟩ hn
  dsimp only at g1 g2 g3 hd ⊢
  refine .bind (AM hd (by omega)) ?_
  rintro⟨c,d⟩ ⟨c1,c2,hd⟩
  dsimp only at c1 c2 hd ⊢
  have hi:i<6:=(X16.1 hkind).1
  refine .join (fun q:JAI×List JAA=>((∀u∈q.2,okO u=true/\u.Data.length<=9/\∃j,j<i+1/\([6,7,16,34,200,255]:List Int)[j]?=some u.Type_)/\q.2.Pairwise (fun a b=>ltT a b=true)/\q.2.length<=i+1)/\Dk q.1) (fun k31 hk31=>.ite (fun _=>?_) fun _=>hk31 (d,l) ⟨⟨fun u hu=>?_,g2,by dsimp only;omega⟩,hd⟩) fun q hq=>hn q hq
  ·refine .bind (N6 hd (by omega)) ?_
   rintro⟨b,d⟩ ⟨hb,hd⟩
   dsimp only at hb hd ⊢
   refine .bind (Ok.apnd (by decide) (by simp;omega)) fun l2 hl2=>hk31 (d,l2) ⟨?_,hd⟩
   dsimp only
   rw[hl2]
   have hlt :∀j,j<i->∀t,([6,7,16,34,200,255]:List Int)[j]?=some t->t<kind:=by
    intro j hj t ht
    match i,j,hi,hj with
    | 1,0,_,_ | 2,0,_,_ | 2,1,_,_ | 3,0,_,_ | 3,1,_,_ | 3,2,_,_ | 4,0,_,_ | 4,1,_,_ | 4,2,_,_ | 4,3,_,_ | 5,0,_,_ | 5,1,_,_ | 5,2,_,_ | 5,3,_,_ | 5,4,_,_=>simp at ht hkind;omega
   have hkk:decide (1<=kind/\kind<=255)=true/\unk kind=true:=by
    have:=List.mem_of_getElem? hkind
    simp only[List.mem_cons,List.not_mem_nil,or_false] at this
    rcases this with rfl | rfl | rfl | rfl | rfl | rfl<;>decide
   refine⟨fun u hu=>?_,List.pairwise_append.2 ⟨g2,List.pairwise_singleton _ _,fun u hu v hv=>?_⟩,by simp only[X11,X22];omega⟩
   ·rcases X23.1 hu with hu | hu
    ·obtain⟨q1,q2,j,q3,q4⟩:=g1 u hu
     exact⟨q1,q2,j,by omega,q4⟩
    rw[X14] at hu
    subst hu
    refine⟨?_,by dsimp only;omega,i,by omega,hkind⟩
    unfold okO
    rw[hkk.1,hkk.2]
    simp only[Bool.true_and,X27,decide_eq_true_eq]
    exact⟨trivial,by omega⟩
   rw[X14] at hv
   subst hv
   obtain⟨_,_,j,q3,q4⟩:=g1 u hu
   have:=hlt j q3 _ q4
   simpa[ltT] using this
  obtain⟨q1,q2,j,q3,q4⟩:=g1 u hu
  exact⟨q1,q2,j,by omega,q4⟩
 rintro⟨d,l⟩ ⟨⟨g1,g2,g3⟩,hd⟩
 dsimp only at g1 g2 g3 hd ⊢
 refine .ret ⟨⟨?_,hp.1,hp.2.1,hcs.2,hls.2,g3,fun u hu=>(g1 u hu).2⟩,hd⟩
 have hmed:=hmed.1
 have hpref:=hpref.1
 have hotc:=hotc.1
 simp only[List.mem_cons,List.not_mem_nil,or_false] at hmed hpref hotc
 rw[AP (by omega)]
 have hO:EM l=true:=by
  unfold EM
  rw[X27,Hh WQ,List.all_eq_true]
  exact⟨fun u hu=>(g1 u hu).1,g2⟩
 unfold Gp
 simp only[hO,hp.2.2,hnx,hcs.1,hls.1,Bool.true_and,X27,decide_eq_true_eq,Bool.or_eq_true,KQ]
 omega
theorem SL {α ρ:Type}{K:Unit->Option ρ}{l:List α}{body:(Unit->Option ρ)->α->Nat->Unit->Option ρ}(h :∀next x (i:Nat),geti l (i:Int)=some x->body next x i ()=next ()):An K body l 0 ()=K ():=by
 have key :∀(t p:List α),l=p++t->An K body t p.length ()=K ():=by
  intro t
  induction t with
  | nil=>intro p _;rfl
  | cons x t ih=>
   intro p e
   show body (fun s=>An K body t (p.length+1) s) x p.length ()=_
   rw[h _ x p.length (by rw[e];exact M6 p x t)]
   have:=ih (p++[x]) (by rw[e];simp)
   simpa using this
 exact key l [] rfl
theorem Ry (l:List JAA):CV l l=some true:=by
 unfold CV
 rw[if_neg (by simp),AB]
 refine SL fun next x i hg=>?_
 rw[AB]
 simp only[hg,AA,bne_self_eq_false,cond_false,beq_self_eq_true,Bool.not_true]
 rfl
theorem W2 (l:List JAB):ER l l=some true:=by
 unfold ER
 rw[if_neg (by simp),AB]
 refine SL fun next x i hg=>?_
 rw[hg,AA,(Yu x x).2 rfl]
 rfl
theorem XT (l:List JAF):CH l l=some true:=by
 unfold CH
 rw[if_neg (by simp),AB]
 refine SL fun next x i hg=>?_
 rw[hg,AA,(Yq x x).2 rfl]
 rfl
theorem XH (l:List JAE):EQ l l=some true:=by
 unfold EQ
 rw[if_neg (by simp),AB]
 refine SL fun next x i hg=>?_
 rw[AB,AB,hg,AA,beq_self_eq_true,if_neg (by decide),AA]
 show (if (cond false true ((x.ASNs.length:Int) != (x.ASNs.length:Int)))=true then _ else _)=_
 rw[bne_self_eq_false,if_neg (by decide),AB]
 refine SL fun next x2 i2 hg2=>?_
 rw[AA,hg2,AA,bne_self_eq_false]
 rfl
theorem fX (a b:Addr):Addr.eqd a b=true↔a=b:=by
 unfold Addr.eqd
 simp only[X27,beq_iff_eq,Bool.and_true,Int.natCast_inj,UInt64.toNat_inj]
 constructor
 ·rintro⟨h1,h2,h3⟩;cases a;cases b;simp_all
 rintro rfl;exact⟨rfl,rfl,rfl⟩
theorem ZJ (a:JAD):Dq a a=some true:=by
 unfold Dq
 rw[AB,if_pos (by simp),XH,AA,(fX _ _).2 rfl,W2,AA,XT,AA,Ry,AA,beq_self_eq_true,beq_self_eq_true,beq_self_eq_true]
 rfl
theorem Uy (a b:JAA):ltK HS a b=ltT a b:=by
 unfold ltK HS ltT
 rw[SJ,Z9,X28,decide_eq_true_eq,decide_eq_true_eq]
 split
 ·simp[*]
 split<;>omega
theorem gg {l:List JAA}(hl:l.length<=1000000){K:Unit->Option Bool} :
  An (σ:=Unit) K (fun next2 x3 i4 _=>
   AC (τ:=Bool) (fun k5=>
    if (decide (x3.Type_<1))=true then
     k5 true
    else
     if (cond false true (decide (x3.Type_ > 255)))=true then
      k5 true
     else
      Option.bind (DY x3.Type_) fun v6=>
      if (cond false true (!v6))=true then
       k5 true
      else
       if (cond false true (x3.Flags != 224))=true then
        k5 true
       else
        if (cond false true (decide ((x3.Data.length:Int) > 255)))=true then
         k5 true
        else
         if (decide ((i4:Int) > 0))=true then
          Option.bind (geti l (AI ((i4:Int)-1))) fun v7=>
          k5 (cond false true (cond true (decide (v7.Type_ ≥ x3.Type_)) false))
         else
          k5 false
   ) fun v8=>
   if v8=true then
    some false
   else
    next2 ()) l 0 ()=if EM l=true then K () else some false:=by
 have hok :∀x:JAA,okO x=!(decide (x.Type_<1) || (decide (x.Type_ > 255) || ((!unk x.Type_) || ((x.Flags != 224) || decide ((x.Data.length:Int) > 255))))):=by
  intro x
  unfold okO
  have e1:decide (1<=x.Type_/\x.Type_<=255)=(!decide (x.Type_<1)&&!decide (x.Type_ > 255)):=by rw[X28];simp
  have e2:decide (x.Flags=224)=!(x.Flags != 224):=by rw[X28];simp
  have e3:decide (x.Data.length<=255)=!decide ((x.Data.length:Int) > 255):=by rw[X28];simp;omega
  rw[e1,e2,e3]
  cases decide (x.Type_ < 1)<;>cases decide (x.Type_ > 255)<;>cases unk x.Type_<;>cases (x.Flags != 224)<;>cases decide ((x.Data.length:Int) > 255)<;>rfl
 refine bp (ok:=okO) (lt:=ltT) (by omega) (fun next x _=>?_) fun next x y i _ _ hg=>?_
 ·rw[AB,Ij,AA,hok]
  cases decide (x.Type_ < 1)<;>cases decide (x.Type_ > 255)<;>cases unk x.Type_<;>cases (x.Flags != 224)<;>cases decide ((x.Data.length:Int) > 255)<;>rfl
 have e:decide (((i+1:Nat):Int) > 0)=true:=by simp
 have e2:decide (y.Type_ ≥ x.Type_)=!ltT y x:=by unfold ltT;rw[X28];simp
 rw[AB,Ij,AA,hok,hg,AA,e,e2]
 cases decide (x.Type_ < 1)<;>cases decide (x.Type_ > 255)<;>cases unk x.Type_<;>cases (x.Flags != 224)<;>cases decide ((x.Data.length:Int) > 255)<;>cases ltT y x<;>rfl
theorem YU {l:List JAA}(hl:l.length<=1000000):Df l=some (EM l&&decide (l.length<=8)):=by
 unfold Df
 rw[AB]
 have hok :∀x:JAA,okO x=(unk x.Type_&&((decide (1<=x.Type_)&&decide (x.Type_<=255))&&(!(x.Flags != 224)&&!decide ((x.Data.length:Int) > 255)))):=by
  intro x
  unfold okO
  have e1:decide (1<=x.Type_/\x.Type_<=255)=(decide (1<=x.Type_)&&decide (x.Type_<=255)):=by rw[X28];simp
  have e2:decide (x.Flags=224)=!(x.Flags != 224):=by rw[X28];simp
  have e3:decide (x.Data.length<=255)=!decide ((x.Data.length:Int) > 255):=by rw[X28];simp;omega
  rw[e1,e2,e3]
  cases decide (1<=x.Type_)<;>cases decide (x.Type_<=255)<;>cases unk x.Type_<;>cases (x.Flags != 224)<;>cases decide ((x.Data.length:Int) > 255)<;>rfl
 refine (bp (ok:=okO) (lt:=ltT) (F:=some false) (by omega) (fun next x _=>?_) fun next x y i _ _ hg=>?_).trans ?_
 ·rw[AB,D7,AA,GE,hok]
  cases decide (1<=x.Type_)<;>cases decide (x.Type_<=255)<;>cases unk x.Type_<;>cases (x.Flags != 224)<;>cases decide ((x.Data.length:Int) > 255)<;>rfl
 ·have e:decide (((i+1:Nat):Int) > 0)=true:=by simp
  have e2:decide (y.Type_ ≥ x.Type_)=!ltT y x:=by unfold ltT;rw[X28];simp
  rw[AB,D7,AA,GE,hok,hg,e]
  simp only[AA,e2]
  cases decide (1<=x.Type_)<;>cases decide (x.Type_<=255)<;>cases unk x.Type_<;>cases (x.Flags != 224)<;>cases decide ((x.Data.length:Int) > 255)<;>cases ltT y x<;>rfl
 have e:decide ((l.length:Int)<=8)=decide (l.length<=8):=by rw[X28];simp;omega
 rw[e]
 unfold EM
 generalize (l.all okO&&chainB ltT l)=b
 cases b<;>rfl
theorem Si {a:JAD}(h:SmT a):F3 a=some (Gp a):=by
 unfold F3
 rw[AB]
 refine (gg h.o).trans ?_
 unfold Gp
 by_cases hO:EM a.Other=true
 rotate_left
 ·have hO:EM a.Other=false:=by simpa using hO
  rw[hO];rfl
 rw[hO,if_pos rfl,AB,H4 (by have:=h.p;omega) (by have:=h.t;omega),AA,FI,AA,KT (by have:=h.c;omega),HU (by have:=h.l;omega)]
 simp only[AA]
 have d1:decide (-1<=a.Origin/\a.Origin<=2)=(decide (a.Origin ≥ -1)&&decide (a.Origin<=2)):=by rw[X28];simp
 have d2:decide (-1<=a.MED/\a.MED<=4294967295)=(decide (a.MED ≥ -1)&&decide (a.MED<=4294967295)):=by rw[X28];simp
 have d3:decide (-1<=a.Pref/\a.Pref<=4294967295)=(decide (a.Pref ≥ -1)&&decide (a.Pref<=4294967295)):=by rw[X28];simp
 have d4:KQ a.OTC=(decide (a.OTC ≥ 1)&&decide (a.OTC<=4294967295)):=rfl
 have d5:decide (a.OTC=-1)=(a.OTC==-1):=rfl
 have d6:decide (a.Other.length<=8)=decide ((a.Other.length:Int)<=8):=by rw[X28];simp;omega
 rw[d1,d2,d3,d4,d5,d6]
 generalize decide (a.Origin ≥ -1)=b1
 generalize decide (a.Origin<=2)=b2
 generalize F5 a.Path=b3
 generalize a.Next.ok=b4
 generalize decide (a.MED ≥ -1)=b5
 generalize decide (a.MED<=4294967295)=b6
 generalize decide (a.Pref ≥ -1)=b7
 generalize decide (a.Pref<=4294967295)=b8
 generalize (a.OTC==-1)=b9
 generalize decide (a.OTC ≥ 1)=b10
 generalize decide (a.OTC<=4294967295)=b11
 generalize EV a.Communities=b12
 generalize ET a.JAF=b13
 generalize decide ((a.Other.length:Int)<=8)=b14
 cases b1
 ·rfl
 cases b2
 ·rfl
 cases b3
 ·rfl
 cases b4
 ·rfl
 cases b5
 ·rfl
 cases b6
 ·rfl
 cases b7
 ·rfl
 cases b8
 ·rfl
 cases b9<;>cases b10<;>cases b11<;>cases b12<;>cases b13<;>cases b14<;>rfl
theorem QK {a:JAD}(h:SmT a):DO a=some (Gp a):=by
 unfold DO Gp
 rw[AB,GE,AA,Jg (by have:=h.p;omega) (by have:=h.t;omega),AA,Ef,AA,GE,AA,GE,AA,H5 (by have:=h.c;omega),GA (by have:=h.l;omega),YU h.o,number_eq]
 simp only[AA]
 have d1:decide (-1<=a.Origin/\a.Origin<=2)=(decide (-1<=a.Origin)&&decide (a.Origin<=2)):=by rw[X28];simp
 have d2:decide (-1<=a.MED/\a.MED<=4294967295)=(decide (-1<=a.MED)&&decide (a.MED<=4294967295)):=by rw[X28];simp
 have d3:decide (-1<=a.Pref/\a.Pref<=4294967295)=(decide (-1<=a.Pref)&&decide (a.Pref<=4294967295)):=by rw[X28];simp
 have d4:KQ a.OTC=(decide (1<=a.OTC)&&decide (a.OTC<=4294967295)):=rfl
 have d5:decide (a.OTC=-1)=(a.OTC==-1):=rfl
 rw[d1,d2,d3,d4,d5]
 generalize (decide (-1<=a.Origin)&&decide (a.Origin<=2))=b1
 generalize F5 a.Path=b3
 generalize a.Next.ok=b4
 generalize (decide (-1<=a.MED)&&decide (a.MED<=4294967295))=b5
 generalize (decide (-1<=a.Pref)&&decide (a.Pref<=4294967295))=b7
 generalize (a.OTC==-1)=b9
 generalize (decide (1<=a.OTC)&&decide (a.OTC<=4294967295))=b10
 generalize EV a.Communities=b12
 generalize ET a.JAF=b13
 generalize EM a.Other=b14
 generalize decide (a.Other.length<=8)=b15
 cases b1
 ·simp
 cases b3
 ·simp
 cases b4
 ·simp
 cases b5
 ·simp
 cases b7
 ·simp
 cases b9<;>cases b10<;>cases b12<;>cases b13<;>cases b14<;>cases b15<;>rfl
def w4 (n:Int):List UInt8:=[(Aa (Int.fdiv n (2^(min (Int.toNat 24) 64)))),(Aa (Int.fdiv n (2^(min (Int.toNat 16) 64)))),(Aa (Int.fdiv n (2^(min (Int.toNat 8) 64)))),(Aa n)]
def w2 (n:Int):List UInt8:=[(Aa (Int.fdiv n (2^(min (Int.toNat 8) 64)))),(Aa n)]
theorem WF (k n:Nat)(hk:k<64)(hn:n=8*k)(h8:k<9):min (Int.toNat ((AW (8*((AW (k:Int)).toNat:Int))).toNat:Int)) 64=min (Int.toNat (n:Int)) 64:=by
 have h1:(AW (k:Int)).toNat=k:=by
  unfold AW
  simp only[UInt64.toNat_ofNat']
  omega
 rw[h1]
 have h2:(AW (8*(k:Int))).toNat=n:=by
  unfold AW
  simp only[UInt64.toNat_ofNat']
  omega
 rw[h2]
theorem fdiv_one (n:Int):Int.fdiv n (2^(min (Int.toNat ((0:Nat):Int)) 64))=n:=by
 have:((2:Int)^(min (Int.toNat ((0:Nat):Int)) 64))=1:=rfl
 rw[this,Int.fdiv_one]
theorem Xr (v:Int){n:Int}(hn:n=4\/n=2):AT v n=some (if n=4 then w4 v else w2 v):=by
 unfold AT
 rw[AB]
 have s3:=WF 3 24 (by omega) rfl (by omega)
 have s2:=WF 2 16 (by omega) rfl (by omega)
 have s1:=WF 1 8 (by omega) rfl (by omega)
 have s0:=WF 0 0 (by omega) rfl (by omega)
 have s3:min (Int.toNat ((AW (8*((AW (3:Int)).toNat:Int))).toNat:Int)) 64=min (Int.toNat 24) 64:=s3
 have s2:min (Int.toNat ((AW (8*((AW (2:Int)).toNat:Int))).toNat:Int)) 64=min (Int.toNat 16) 64:=s2
 have s1:min (Int.toNat ((AW (8*((AW (1:Int)).toNat:Int))).toNat:Int)) 64=min (Int.toNat 8) 64:=s1
 have s0:min (Int.toNat ((AW (8*((AW (0:Int)).toNat:Int))).toNat:Int)) 64=min (Int.toNat ((0:Nat):Int)) 64:=s0
 refine (Da (fun s:Int×List UInt8=>(s.1=3\/s.1=2\/s.1=1\/s.1=0\/s.1=-1)/\s.2.length+(s.1+1).toNat<=4) (fun s=>(s.1+1).toNat) (fun s=>some (s.2++(w4 v).drop (3-s.1).toNat)) ?_ fuel (AI (n-1),[]) ?_ ?_).trans ?_
 ·rintro next ⟨i,l⟩ ⟨hi,hl⟩ hk
  dsimp only at hi hl ⊢
  rcases hi with rfl | rfl | rfl | rfl | rfl
  ·rw[if_pos (by decide),s3,AO (by decide) (by simp only[X22];omega),AA,AP (by omega),hk _ ⟨by simp,by simp only[X11,X22];omega⟩ (by simp only;omega)]
   simp[w4]
  ·rw[if_pos (by decide),s2,AO (by decide) (by simp only[X22];omega),AA,AP (by omega),hk _ ⟨by simp,by simp only[X11,X22];omega⟩ (by simp only;omega)]
   simp[w4]
  ·rw[if_pos (by decide),s1,AO (by decide) (by simp only[X22];omega),AA,AP (by omega),hk _ ⟨by simp,by simp only[X11,X22];omega⟩ (by simp only;omega)]
   simp[w4]
  ·rw[if_pos (by decide),s0,fdiv_one,AO (by decide) (by simp only[X22];omega),AA,AP (by omega),hk _ ⟨by simp,by simp only[X11,X22];omega⟩ (by simp only;omega)]
   simp[w4]
  rw[if_neg (by decide)]
  simp[w4]
 ·dsimp only
  rw[AP (by omega)]
  rcases hn with rfl | rfl
  ·exact⟨.inl rfl,by decide⟩
  exact⟨.inr (.inr (.inl rfl)),by decide⟩
 ·dsimp only
  rw[AP (by omega)]
  exact CE (by omega)
 dsimp only
 rw[AP (by omega)]
 rcases hn with rfl | rfl<;>rfl
theorem RN (v:Int):AT v 4=some (w4 v):=Xr v (.inl rfl)
theorem cr (v:Int):AT v 2=some (w2 v):=Xr v (.inr rfl)
theorem N1 (n:Int):(w4 n).length=4:=rfl
theorem Hg (l:List Int):(l.flatMap w4).length=4*l.length:=by
 induction l with
 | nil=>rfl
 | cons x t ih=>rw[List.flatMap_cons,X11,ih,N1,X12];omega
theorem put_eq {b:List UInt8}{l:List Int}(h:b.length+4*l.length<=1000000000):DZ b l=some (b++l.flatMap w4):=by
 unfold DZ
 rw[AB]
 refine (QE (g:=w4) (N:=1000000000) (by rw[Hg];omega) fun next x i v _ hv=>?_).trans rfl
 have e:([(Aa (Int.fdiv x (2^(min (Int.toNat 24) 64)))),(Aa (Int.fdiv x (2^(min (Int.toNat 16) 64)))),(Aa (Int.fdiv x (2^(min (Int.toNat 8) 64)))),(Aa x)]:List UInt8)=w4 x:=rfl
 rw[e,AO (by decide) hv,AA]
theorem MH (n:Int):BL [n]=some (w4 n):=by
 have:BL [n]=DZ [] [n]:=rfl
 rw[this,put_eq (by simp)]
 rfl
def Yo (s:JAE):List UInt8:=[(if s.Set=true then (1:UInt8) else 2),Aa (s.ASNs.length:Int)]++s.ASNs.flatMap w4
def F9 (p:List JAE):List UInt8:=p.flatMap Yo
theorem RH (s:JAE):(Yo s).length=2+4*s.ASNs.length:=by
 unfold Yo
 rw[X11,Hg];rfl
theorem OS (p:List JAE):(F9 p).length=2*p.length+4*tot p:=by
 unfold F9
 induction p with
 | nil=>rfl
 | cons s t ih=>rw[List.flatMap_cons,X11,ih,RH,X12,EY];omega
theorem ZM {p:List JAE}(h:2*p.length+4*tot p<=100000000):Bh p=some (F9 p):=by
 unfold Bh
 rw[AB]
 have hl:=OS p
 unfold F9 at hl ⊢
 refine (QE (g:=Yo) (N:=100000000) (by rw[hl];simp only[X13];omega) fun next s i v _ hv=>?_).trans rfl
 rw[RH] at hv
 rw[Ii,AO (by decide) (by simp;omega),AA,put_eq (by simp;omega),AA,List.append_assoc]
 rfl
theorem aS {p:List JAE}(h:2*p.length+4*tot p<=100000000){ρ:Type}{K:List UInt8->Option ρ}:AC (τ:=(List UInt8)) (fun k7=>
     An (σ:=(List UInt8)) (fun v8=>
      k7 v8
     ) (fun next9 (x10:JAE) i11 v8=>
      AC (τ:=(List UInt8)) (fun k12=>
       AC (τ:=UInt8) (fun k13=>
        if x10.Set=true then
         k13 (1:UInt8)
        else
         k13 (2:UInt8)
       ) fun v14=>
       Option.bind (apnd (α:=UInt8) 1 v8 ([v14,(Aa (x10.ASNs.length:Int))]:List UInt8)) fun v15=>
       AC (τ:=(List UInt8)) (fun k16=>
        An (σ:=(List UInt8)) (fun v17=>
         k16 v17
        ) (fun next18 (x19:Int) i20 v17=>
         Option.bind (AT x19 4) fun v21=>
         Option.bind (apnd (α:=UInt8) 1 v17 v21) fun v22=>
         next18 v22
        ) x10.ASNs 0 v15
       ) fun v23=>
       k12 v23
      ) fun v24=>
      next9 v24
     ) p 0 ([]:List UInt8)
    ) K=K (F9 p):=by
 rw[AB]
 have hl:=OS p
 unfold F9 at hl ⊢
 refine (QE (g:=Yo) (N:=100000000) (by rw[hl];simp only[X13];omega) fun next s i v _ hv=>?_).trans rfl
 rw[RH] at hv
 rw[AB,Ii,AO (by decide) (by simp;omega),AA,AB]
 refine (QE (g:=w4) (N:=1000000000) (by rw[Hg];simp;omega) fun next x i v _ hv=>?_).trans ?_
 ·rw[RN,AA,AO (by decide) hv,AA]
 rw[List.append_assoc]
 rfl
def Ht (c:JAB):List UInt8:=w2 c.A++w2 c.B
def GV (c:JAF):List UInt8:=w4 c.A++(w4 c.B++w4 c.C)
theorem OJ (c:JAB):(Ht c).length=4:=rfl
theorem MA (c:JAF):(GV c).length=12:=rfl
theorem LI (l:List JAB):(l.flatMap Ht).length=4*l.length:=by
 induction l with
 | nil=>rfl
 | cons x t ih=>rw[List.flatMap_cons,X11,ih,OJ,X12];omega
theorem LK (l:List JAF):(l.flatMap GV).length=12*l.length:=by
 induction l with
 | nil=>rfl
 | cons x t ih=>rw[List.flatMap_cons,X11,ih,MA,X12];omega
theorem Wb {a b:Nat}(h:a%256=b%256):UInt8.ofNat a=UInt8.ofNat b:=by
 apply UInt8.toNat_inj.1
 simp only[UInt8.toNat_ofNat']
 exact h
theorem fd (n k:Nat):Int.fdiv (n:Int) (2^(min (Int.toNat (k:Int)) 64))=((n/2^(min k 64):Nat):Int):=by
 rw[Int.toNat_natCast]
 have:((2:Int)^(min k 64))=((2^(min k 64):Nat):Int):=by simp
 rw[this,Int.fdiv_eq_ediv_of_nonneg _ (Int.natCast_nonneg _),Int.natCast_ediv]
theorem aU (n:Nat):w4 (n:Int)=[UInt8.ofNat (n/16777216),UInt8.ofNat (n/65536),UInt8.ofNat (n/256),UInt8.ofNat n]:=by
 have h1:=fd n 24
 have h2:=fd n 16
 have h3:=fd n 8
 have h1:Int.fdiv (n:Int) (2^(min (Int.toNat 24) 64))=((n/2^(min 24 64):Nat):Int):=h1
 have h2:Int.fdiv (n:Int) (2^(min (Int.toNat 16) 64))=((n/2^(min 16 64):Nat):Int):=h2
 have h3:Int.fdiv (n:Int) (2^(min (Int.toNat 8) 64))=((n/2^(min 8 64):Nat):Int):=h3
 unfold w4
 rw[h1,h2,h3,BZ,BZ,BZ,BZ]
 rfl
theorem XG (n:Nat):w2 (n:Int)=[UInt8.ofNat (n/256),UInt8.ofNat n]:=by
 have h3:=fd n 8
 have h3:Int.fdiv (n:Int) (2^(min (Int.toNat 8) 64))=((n/2^(min 8 64):Nat):Int):=h3
 unfold w2
 rw[h3,BZ,BZ]
 rfl
theorem YV {c:JAB}(h:okC c=true):w4 (AI ((BitVec.ofInt 64 (AI (c.A*(2^(min (Int.toNat 16) 64)))) ||| BitVec.ofInt 64 c.B).toNat:Int))=Ht c:=by
 simp only[okC,inR,X27,decide_eq_true_eq] at h
 obtain⟨a,ha⟩ :∃a:Nat,c.A=a:=⟨c.A.toNat,by omega⟩
 obtain⟨b,hb⟩ :∃b:Nat,c.B=b:=⟨c.B.toNat,by omega⟩
 unfold Ht
 rw[ha,hb] at h ⊢
 have e:((a:Int)*(2^(min (Int.toNat 16) 64)))=((a*65536:Nat):Int):=by
  have:min (Int.toNat 16) 64=16:=rfl
  rw[this];omega
 rw[e,AP (x:=((a*65536:Nat):Int)) (by omega),BitVec.ofInt_natCast,BitVec.ofInt_natCast,BitVec.toNat_or,BitVec.toNat_ofNat,BitVec.toNat_ofNat,Nat.mod_eq_of_lt (show a*65536<2^64 by omega),Nat.mod_eq_of_lt (show b<2^64 by omega),
  show a*65536=2^16*a by omega,<- Nat.two_pow_add_eq_or_of_lt (show b<2^16 by omega),AP (by omega),aU,XG,XG]
 have q1:(2^16*a+b)/16777216=a/256:=by omega
 have q2:(2^16*a+b)/65536=a:=by omega
 have q3:UInt8.ofNat ((2^16*a+b)/256)=UInt8.ofNat (b/256):=Wb (by omega)
 have q4:UInt8.ofNat (2^16*a+b)=UInt8.ofNat b:=Wb (by omega)
 rw[q1,q2,q3,q4]
 rfl
theorem Wp {l:List JAB}(hv :∀c∈l,okC c=true)(h:l.length<=1000000):B6 l=some (l.flatMap Ht):=by
 unfold B6
 rw[AB]
 refine (QE (g:=Ht) (N:=100000000) (by rw[LI];simp only[X13];omega) fun next c i v hc hl=>?_).trans rfl
 rw[OJ] at hl
 rw[put_eq (by simp;omega),AA,List.flatMap_cons,List.flatMap_nil,List.append_nil,YV (hv c hc)]
theorem W8 {l:List JAF}(h:l.length<=1000000):Dw l=some (l.flatMap GV):=by
 unfold Dw
 rw[AB]
 refine (QE (g:=GV) (N:=100000000) (by rw[LK];simp only[X13];omega) fun next c i v hc hl=>?_).trans rfl
 rw[MA] at hl
 rw[put_eq (by simp;omega),AA]
 simp[GV]
def b4 (n:Nat):List UInt8:=[UInt8.ofNat (n/16777216),UInt8.ofNat (n/65536),UInt8.ofNat (n/256),UInt8.ofNat n]
theorem P2 {x:UInt64}{k n:Nat}(hn:n=8*k)(hk:k<8)(hx:x.toNat<4294967296):Aa ((AW (Int.fdiv (x.toNat:Int) (2^(min (Int.toNat (n:Int)) 64)))).toNat:Int)=UInt8.ofNat (x.toNat/2^n):=by
 rw[fd,Nat.min_eq_left (by omega),BV,BZ]
 congr 1
 rw[UInt64.toNat_ofNat',Nat.mod_eq_of_lt]
 exact Nat.lt_of_le_of_lt (Nat.div_le_self _ _) (by omega)
theorem Addr.four {a:Addr}(h:a.ok=true)(h6:a.V6=false):a.Hi.toNat=0/\a.Lo.toNat<4294967296:=by
 unfold Addr.ok at h
 rw[h6,cond_false] at h
 cases h1:((a.Hi.toNat:Int)==0)
 ·rw[h1] at h;simp at h
 rw[h1,cond_true,decide_eq_true_eq] at h
 simp only[beq_iff_eq] at h1
 omega
theorem ZE {a:Addr}(h:a.ok=true)(h6:a.V6=false):Bl a=some (b4 a.Lo.toNat):=by
 obtain⟨_,hlo⟩:=Addr.four h h6
 unfold Bl
 rw[FI,AA,h,if_neg (by decide),AB,h6,if_neg (by decide)]
 show AC _ _=_
 rw[AB]
 have s3:=WF 3 24 (by omega) rfl (by omega)
 have s2:=WF 2 16 (by omega) rfl (by omega)
 have s1:=WF 1 8 (by omega) rfl (by omega)
 have s0:=WF 0 0 (by omega) rfl (by omega)
 have s3:min (Int.toNat ((AW (8*((AW (Int.tmod 3 8)).toNat:Int))).toNat:Int)) 64=min (Int.toNat ((24:Nat):Int)) 64:=s3
 have s2:min (Int.toNat ((AW (8*((AW (Int.tmod 2 8)).toNat:Int))).toNat:Int)) 64=min (Int.toNat ((16:Nat):Int)) 64:=s2
 have s1:min (Int.toNat ((AW (8*((AW (Int.tmod 1 8)).toNat:Int))).toNat:Int)) 64=min (Int.toNat ((8:Nat):Int)) 64:=s1
 have s0:min (Int.toNat ((AW (8*((AW (Int.tmod 0 8)).toNat:Int))).toNat:Int)) 64=min (Int.toNat ((0:Nat):Int)) 64:=s0
 refine (Da (fun s:Int×List UInt8=>(s.1=3\/s.1=2\/s.1=1\/s.1=0\/s.1=-1)/\s.2.length+(s.1+1).toNat<=4) (fun s=>(s.1+1).toNat) (fun s=>some (s.2++(b4 a.Lo.toNat).drop (3-s.1).toNat)) ?_ fuel (AI (4-1),[]) ?_ ?_).trans ?_
 ·rintro next ⟨i,l⟩ ⟨hi,hl⟩ hk
  dsimp only at hi hl ⊢
  rcases hi with rfl | rfl | rfl | rfl | rfl
  ·rw[if_pos (by decide),AB,if_neg (by decide),s3]
   show Option.bind _ _=_
   rw[P2 (n:=24) (k:=3) rfl (by omega) hlo,AO (by decide) (by simp only[X22];omega),AA,AP (by omega),hk _ ⟨by simp,by simp only[X11,X22];omega⟩ (by simp only;omega)]
   simp[b4]
  ·rw[if_pos (by decide),AB,if_neg (by decide),s2]
   show Option.bind _ _=_
   rw[P2 (n:=16) (k:=2) rfl (by omega) hlo,AO (by decide) (by simp only[X22];omega),AA,AP (by omega),hk _ ⟨by simp,by simp only[X11,X22];omega⟩ (by simp only;omega)]
   simp[b4]
  ·rw[if_pos (by decide),AB,if_neg (by decide),s1]
   show Option.bind _ _=_
   rw[P2 (n:=8) (k:=1) rfl (by omega) hlo,AO (by decide) (by simp only[X22];omega),AA,AP (by omega),hk _ ⟨by simp,by simp only[X11,X22];omega⟩ (by simp only;omega)]
   simp[b4]
  ·rw[if_pos (by decide),AB,if_neg (by decide),s0]
   show Option.bind _ _=_
   rw[P2 (n:=0) (k:=0) rfl (by omega) hlo,AO (by decide) (by simp only[X22];omega),AA,AP (by omega),hk _ ⟨by simp,by simp only[X11,X22];omega⟩ (by simp only;omega)]
   simp[b4]
  rw[if_neg (by decide)]
  simp[b4]
 ·dsimp only
  rw[AP (by omega)]
  exact⟨.inl rfl,by decide⟩
 ·dsimp only
  rw[AP (by omega)]
  exact CE (by omega)
 dsimp only
 rw[AP (by omega)]
 rfl
theorem Zh {x:UInt64}{h:UInt64}(hx:x.toNat<4294967296)(hh:h.toNat=0):(AW ((BitVec.ofInt 64 ((AW (Int.fdiv (x.toNat:Int) (2^(min (Int.toNat 8) 64)))).toNat:Int) ||| BitVec.ofInt 64 ((AW ((h.toNat:Int)*(2^(min (Int.toNat 56) 64)))).toNat:Int)).toNat:Int)).toNat=x.toNat/256/\
  (AW (Int.fdiv (h.toNat:Int) (2^(min (Int.toNat 8) 64)))).toNat=0:=by
 have e1:Int.fdiv (x.toNat:Int) (2^(min (Int.toNat 8) 64))=((x.toNat/256:Nat):Int):=fd x.toNat 8
 have e2:Int.fdiv (h.toNat:Int) (2^(min (Int.toNat 8) 64))=((h.toNat/256:Nat):Int):=fd h.toNat 8
 rw[e1,e2,hh,BV]
 have e3:(((0:Nat):Int)*(2^(min (Int.toNat 56) 64)))=((0:Nat):Int):=by simp
 rw[e3,BV,BV]
 have e4:(UInt64.ofNat 0).toNat=0:=rfl
 have e5:(UInt64.ofNat (x.toNat/256)).toNat=x.toNat/256:=by rw[UInt64.toNat_ofNat'];omega
 rw[e4,e5,BitVec.ofInt_natCast,BitVec.ofInt_natCast,BitVec.toNat_or,BitVec.toNat_ofNat,BitVec.toNat_ofNat,Nat.zero_mod,Nat.or_zero,Nat.mod_eq_of_lt (by omega)]
 exact⟨e5,rfl⟩
theorem Wj {a:Addr}(h:a.ok=true)(h6:a.V6=false):BQ a=some (b4 a.Lo.toNat):=by
 obtain⟨hhi,hlo⟩:=Addr.four h h6
 unfold BQ
 rw[Ef,AA,h,if_neg (by decide),AB,h6,if_neg (by decide)]
 have ck:chk ((0:Int)<=4/\(4:Int)<=4/\(4:Int)<=1048576)=some ():=by unfold chk;rw[if_pos (by decide)]
 show Option.bind (chk ((0:Int)<=4/\(4:Int)<=4/\(4:Int)<=1048576)) _=_
 rw[ck,AA,AB]
 refine (Da (fun s:Int×Addr×List UInt8=>∃j:Nat,j<=4/\s.1=3-(j:Int)/\s.2.1.Hi.toNat=0/\s.2.1.Lo.toNat=a.Lo.toNat/256^j/\s.2.2=List.replicate (4-j) 0++(b4 a.Lo.toNat).drop (4-j)) (fun s=>(s.1+1).toNat) (fun s=>some (b4 a.Lo.toNat)) ?_ fuel (AI (4-1),a,List.replicate (Int.toNat 4) (0:UInt8)) ?_ ?_).trans rfl
 ·rintro next ⟨i,x,l⟩ ⟨j,hj,h1,h2,h3,h4⟩ hk
  dsimp only at h1 h2 h3 h4 ⊢
  subst h1
  have hx:x.Lo.toNat<4294967296:=by
   rw[h3];exact Nat.lt_of_le_of_lt (Nat.div_le_self _ _) hlo
  obtain⟨s1,s2⟩:=Zh hx h2
  have hlt:j=4\/j<4:=by omega
  rcases hlt with rfl | hlt
  ·rw[if_neg (by decide),h4]
   simp[b4]
  have hlen:l.length=4:=by rw[h4];simp[b4]<;>omega
  have hg :∃y,geti l (3-(j:Int))=some y:=by
   obtain⟨y,hy,_⟩:=Ok.geti (l:=l) (i:=3-(j:Int)) (by omega)
   exact⟨y,hy⟩
  obtain⟨y,hy⟩:=hg
  have hs:seti l (3-(j:Int)) (Aa (x.Lo.toNat:Int))=some (l.set (3-j) (UInt8.ofNat x.Lo.toNat)):=by
   unfold seti
   rw[if_pos (by omega),BZ]
   congr 2
   omega
  rw[if_pos (by simp only[decide_eq_true_eq];omega),hy,AA,hs,AA,AP (by omega)]
  refine hk _ ⟨j+1,by omega,by simp only;omega,s2,?_,?_⟩ (by simp only;omega)
  ·simp only
   rw[s1,h3,Nat.div_div_eq_div_mul,Nat.pow_succ]
  simp only
  rw[h4,h3]
  match j,hlt with
  | 0,_=>simp[b4]
  | 1,_=>simp[b4]
  | 2,_=>simp[b4]
  | 3,_=>simp[b4]
 ·refine⟨0,by omega,by dsimp only;rw[AP (by omega)];rfl,hhi,by simp,?_⟩
  simp[b4]
 dsimp only
 rw[AP (by omega)]
 exact CE (by omega)
theorem Zy (a:Addr) :∃r,BQ a=some r:=by
 have:Ok (BQ a) fun _=>True:=by
  unfold BQ
  rw[Ef]
  refine .bind (P:=fun _=>True) ⟨_,rfl,trivial⟩ fun v _=>.ite (fun _=>.ret trivial) fun _=>?_
  refine .join (fun n:Int=>n=16\/n=4) (fun k hk=>.ite (fun _=>hk _ (.inl rfl)) fun _=>hk _ (.inr rfl)) fun n hn=>?_
  refine .bind (Ok.chk (by omega)) fun _ _=>.join (fun _=>True) (fun k hk=>?_) fun _ _=>.ret trivial
  refine .whileI (fun s:Int×Addr×List UInt8=>-1<=s.1/\s.1<n/\(s.2.2.length:Int)=n) (fun s=>(s.1+1).toNat) ⟨by dsimp only;rw[AP (by omega)];omega,by dsimp only;rw[AP (by omega)];omega,by dsimp only;rw[X20];omega⟩ (CE (by dsimp only;rw[AP (by omega)];omega)) ?_
  rintro next ⟨i,x,l⟩ ⟨h1,h2,h3⟩ hnx
  dsimp only at h1 h2 h3 ⊢
  refine .ite (fun h=>?_) fun _=>hk _ trivial
  simp only[decide_eq_true_eq] at h
  refine .bind (.geti (by omega)) fun _ _=>.bind (.seti (by omega)) fun l2 hl2=>?_
  rw[AP (by omega)]
  exact hnx _ ⟨by dsimp only;omega,by dsimp only;omega,by dsimp only;omega⟩ (by dsimp only;omega)
 obtain⟨r,h,_⟩:=this
 exact⟨r,h⟩
def Fj (a:JAD):Bool:=!a.Next.V6&&!(Addr.eqd a.Next ⟨false,0,0⟩)
def G (a:JAD)(k:Int):Option (List UInt8):=
 if k=1 then (if a.Origin≠-1 then some [Aa a.Origin] else none) else
 if k=2 then (if a.Origin≠-1\/a.Path≠[] then some (F9 a.Path) else none) else
 if k=3 then (if Fj a=true then some (b4 a.Next.Lo.toNat) else none) else
 if k=4 then (if a.MED≠-1 then some (w4 a.MED) else none) else
 if k=5 then (if a.Pref≠-1 then some (w4 a.Pref) else none) else
 if k=8 then (if a.Communities≠[] then some (a.Communities.flatMap Ht) else none) else
 if k=32 then (if a.JAF≠[] then some (a.JAF.flatMap GV) else none) else
 if k=35 then (if a.OTC≠-1 then some (w4 a.OTC) else none) else none
def ent (a:JAD)(k:Int):List JAA:=match G a k with
 | some b=>[⟨fl k,k,b⟩]
 | none=>[]
def ofK (l:List JAA)(k:Int):List JAA:=l.flatMap fun x=>if (x.Type_==k)=true then [x] else []
def wrS (a:JAD):List JAA:=(List.range' 0 256).flatMap fun (k:Nat)=>ent a k++ofK a.Other k
theorem MM {a:JAD}{k:Int}(h:fl k=0):G a k=none:=by
 rcases Ep k with ⟨_,e⟩|⟨_,e⟩|⟨_,e⟩|⟨_,e⟩|⟨_,e⟩|⟨_,e⟩|⟨_,e⟩|⟨_,e⟩|⟨e1,e2,e3,e4,e5,e6,e7,e8,_⟩
 iterate 8 (rw[e] at h;exact absurd h (by decide))
 unfold G
 rw[if_neg e1,if_neg e2,if_neg e3,if_neg e4,if_neg e5,if_neg e6,if_neg e7,if_neg e8]
theorem P0 {l:List JAA}{k:Int}{y:JAA}:y∈ofK l k↔y∈l/\y.Type_=k:=by
 unfold ofK
 rw[List.mem_flatMap]
 constructor
 ·rintro⟨x,hx,h⟩
  split at h
  ·rename_i hc
   rw[X14] at h
   subst h
   exact⟨hx,by simpa using hc⟩
  simp at h
 rintro⟨hy,e⟩
 exact⟨y,hy,by rw[if_pos (by simpa using e)];simp⟩
theorem Fh {a:JAD}{k:Int}{y:JAA}:y∈ent a k ↔∃b,G a k=some b/\y=⟨fl k,k,b⟩:=by
 unfold ent
 cases G a k with
 | none=>simp
 | some b=>simp
theorem M4 {a:JAD}{k:Int}{y:JAA}(h:y∈ent a k):y.Type_=k:=by
 obtain⟨b,_,rfl⟩:=Fh.1 h
 rfl
theorem Ja {a:JAD}(hO:EM a.Other=true){y:JAA}:y∈wrS a↔(∃k,y∈ent a k)\/y∈a.Other:=by
 unfold wrS
 simp only[List.mem_flatMap,List.mem_range'_1,X23]
 constructor
 ·rintro⟨k,hk,h | h⟩
  ·exact .inl ⟨_,h⟩
  exact .inr (P0.1 h).1
 rintro (⟨k,h⟩|h)
 ·obtain⟨b,hb,_⟩:=Fh.1 h
  have hk:0<=k/\k<256:=by
   rcases Ep k with ⟨e,_⟩|⟨e,_⟩|⟨e,_⟩|⟨e,_⟩|⟨e,_⟩|⟨e,_⟩|⟨e,_⟩|⟨e,_⟩|e
   iterate 8 omega
   rw[MM e.2.2.2.2.2.2.2.2] at hb;cases hb
  refine⟨k.toNat,by omega,.inl ?_⟩
  rw[show ((k.toNat:Nat):Int)=k by omega]
  exact h
 unfold EM at hO
 rw[X27,List.all_eq_true] at hO
 have:=hO.1 y h
 simp only[okO,X27,decide_eq_true_eq] at this
 exact⟨y.Type_.toNat,by omega,.inr (P0.2 ⟨h,by omega⟩)⟩
theorem Dx {l:List JAA}(hO:EM l=true){x:JAA}(h:x∈l):unk x.Type_=true/\1<=x.Type_/\x.Type_<=255/\x.Flags=224/\x.Data.length<=255:=by
 unfold EM at hO
 rw[X27,List.all_eq_true] at hO
 have:=hO.1 x h
 simp only[okO,X27,decide_eq_true_eq] at this
 exact⟨this.2.1,this.1.1,this.1.2,this.2.2.1,this.2.2.2⟩
theorem TZ {t:Int}(h:unk t=true):fl t=0:=by
 simp only[unk,X27,decide_eq_true_eq] at h
 exact h.1
theorem I9 {l:List JAA}(hO:EM l=true):l.Pairwise fun a b=>ltT a b=true:=by
 unfold EM at hO
 rw[X27] at hO
 exact (Hh WQ).1 hO.2
theorem Ob {a:JAD}(hO:EM a.Other=true):(wrS a).Pairwise fun a b=>ltK HS a b=true:=by
 unfold wrS
 rw[List.pairwise_flatMap]
 have ht :∀(k:Nat) y,y∈ent a k++ofK a.Other k->y.Type_=k:=by
  intro k y hy
  rcases X23.1 hy with h | h
  ·exact M4 h
  exact (P0.1 h).2
 constructor
 ·intro k _
  rw[List.pairwise_append]
  refine⟨?_,?_,?_⟩
  ·unfold ent
   split
   ·exact List.pairwise_singleton _ _
   exact .nil
  ·unfold ofK
   rw[List.pairwise_flatMap]
   refine⟨fun x _=>OT,(I9 hO).imp fun {p q} hpq x hx y hy=>?_⟩
   have e1:p.Type_=k:=by
    split at hx
    ·simpa using ‹(p.Type_==(k:Int))=true›
    simp at hx
   have e2:q.Type_=k:=by
    split at hy
    ·simpa using ‹(q.Type_==(k:Int))=true›
    simp at hy
   simp only[ltT,decide_eq_true_eq] at hpq
   omega
  intro x hx y hy
  obtain⟨b,hb,_⟩:=Fh.1 hx
  obtain⟨hy1,hy2⟩:=P0.1 hy
  have:=TZ (Dx hO hy1).1
  rw[hy2] at this
  rw[MM this] at hb;cases hb
 refine (List.pairwise_lt_range' (s:=0) (n:=256)).imp fun {p q} hpq x hx y hy=>?_
 have e1:=ht p x hx
 have e2:=ht q y hy
 rw[Uy]
 simp only[ltT,decide_eq_true_eq]
 omega
theorem Tf {a:JAD}(hO:EM a.Other=true):H7 (wrS a):=(Ob hO).imp fun {p q} h e=>by
 rw[Uy] at h
 simp only[ltT,decide_eq_true_eq] at h
 omega
def WR3 (a0:JAD)(v26:List (Int×(List UInt8))):Option ((List JAA)×Int):=
 AC (τ:=Bool) (fun k27=>
  if (!(Addr.eqd a0.Next (⟨false,(0:UInt64),(0:UInt64)⟩:Addr))) then
   k27 (cond true (!a0.Next.V6) false)
  else
   k27 false
 ) fun v28=>
 AC (τ:=(List (Int×(List UInt8)))) (fun k29=>
  if v28 then
   Option.bind (Bl a0.Next) fun v30=>
   k29 (C2 v26 3 v30)
  else
   k29 v26
 ) fun v31=>
 AC (τ:=(List (Int×(List UInt8)))) (fun k32=>
  if (decide (a0.MED ≥ 0)) then
   Option.bind (AT a0.MED 4) fun v33=>
   k32 (C2 v31 4 v33)
  else
   k32 v31
 ) fun v34=>
 AC (τ:=(List (Int×(List UInt8)))) (fun k35=>
  if (decide (a0.Pref ≥ 0)) then
   Option.bind (AT a0.Pref 4) fun v36=>
   k35 (C2 v34 5 v36)
  else
   k35 v34
 ) fun v37=>
 AC (τ:=(List (Int×(List UInt8)))×(List UInt8)) (fun k38=>
  Option.bind (chk ((BC v37 8).isNone=true)) fun _=>
  An (σ:=(List (Int×(List UInt8)))×(List UInt8)) (fun (v39,v40)=>
   k38 (v39,v40)
  ) (fun next41 (x42:JAB) i43 (v39,v40)=>
   Option.bind (AT x42.A 2) fun v44=>
   Option.bind (apnd (α:=UInt8) 1 v40 v44) fun v45=>
   Option.bind (AT x42.B 2) fun v46=>
   Option.bind (apnd (α:=UInt8) 1 v45 v46) fun v47=>
   next41 ((C2 v39 8 v47),v47)
  ) a0.Communities 0 (v37,[])
 ) fun (v48,v49)=>
 AC (τ:=(List (Int×(List UInt8)))×(List UInt8)) (fun k50=>
  Option.bind (chk ((BC v48 32).isNone=true)) fun _=>
  An (σ:=(List (Int×(List UInt8)))×(List UInt8)) (fun (v51,v52)=>
   k50 (v51,v52)
  ) (fun next53 (x54:JAF) i55 (v51,v52)=>
   Option.bind (AT x54.A 4) fun v56=>
   Option.bind (apnd (α:=UInt8) 1 v52 v56) fun v57=>
   Option.bind (AT x54.B 4) fun v58=>
   Option.bind (apnd (α:=UInt8) 1 v57 v58) fun v59=>
   Option.bind (AT x54.C 4) fun v60=>
   Option.bind (apnd (α:=UInt8) 1 v59 v60) fun v61=>
   next53 ((C2 v51 32 v61),v61)
  ) a0.JAF 0 (v48,[])
 ) fun (v62,v63)=>
 AC (τ:=(List (Int×(List UInt8)))) (fun k64=>
  if (decide (a0.OTC ≥ 0)) then
   Option.bind (AT a0.OTC 4) fun v65=>
   k64 (C2 v62 35 v65)
  else
   k64 v62
 ) fun v66=>
 AC (τ:=(List JAA)) (fun k67=>
  A7 (σ:=Int×(List JAA)) (fun next68 (v69,v70)=>
   if (decide (v69<256)) then
    AC (τ:=(List JAA)) (fun k71=>
     Option.bind (some (Option.getD (BC v66 v69) [])) fun v72=>
     Option.bind (some (Option.isSome (BC v66 v69))) fun v73=>
     AC (τ:=(List JAA)) (fun k74=>
      if v73 then
       Option.bind (Bf v69) fun v75=>
       Option.bind (apnd (α:=UInt8) 1 [] v72) fun _=>
       Option.bind (apnd (α:=JAA) 40 v70 ([(⟨v75,v69,v72⟩:JAA)]:List JAA)) fun v76=>
       k74 v76
      else
       k74 v70
     ) fun v77=>
     AC (τ:=(List JAA)) (fun k78=>
      An (σ:=(List JAA)) (fun v79=>
       k78 v79
      ) (fun next80 (x81:JAA) i82 v79=>
       AC (τ:=(List JAA)) (fun k83=>
        if (x81.Type_==v69) then
         Option.bind (apnd (α:=UInt8) 1 [] x81.Data) fun _=>
         Option.bind (apnd (α:=JAA) 40 v79 ([{ x81 with Type_:=v69 }]:List JAA)) fun v84=>
         k83 v84
        else
         k83 v79
       ) fun v85=>
       next80 v85
      ) a0.Other 0 v77
     ) fun v86=>
     k71 v86
    ) fun v87=>
    next68 ((AI (v69+1)),v87)
   else
    k67 v70
  ) fuel (0,[])
 ) fun v88=>
 some (v88,0)
def WR4 (a0:JAD)(v31:List (Int×(List UInt8))):Option ((List JAA)×Int):=
 AC (τ:=(List (Int×(List UInt8)))) (fun k32=>
  if (decide (a0.MED ≥ 0)) then
   Option.bind (AT a0.MED 4) fun v33=>
   k32 (C2 v31 4 v33)
  else
   k32 v31
 ) fun v34=>
 AC (τ:=(List (Int×(List UInt8)))) (fun k35=>
  if (decide (a0.Pref ≥ 0)) then
   Option.bind (AT a0.Pref 4) fun v36=>
   k35 (C2 v34 5 v36)
  else
   k35 v34
 ) fun v37=>
 AC (τ:=(List (Int×(List UInt8)))×(List UInt8)) (fun k38=>
  Option.bind (chk ((BC v37 8).isNone=true)) fun _=>
  An (σ:=(List (Int×(List UInt8)))×(List UInt8)) (fun (v39,v40)=>
   k38 (v39,v40)
  ) (fun next41 (x42:JAB) i43 (v39,v40)=>
   Option.bind (AT x42.A 2) fun v44=>
   Option.bind (apnd (α:=UInt8) 1 v40 v44) fun v45=>
   Option.bind (AT x42.B 2) fun v46=>
   Option.bind (apnd (α:=UInt8) 1 v45 v46) fun v47=>
   next41 ((C2 v39 8 v47),v47)
  ) a0.Communities 0 (v37,[])
 ) fun (v48,v49)=>
 AC (τ:=(List (Int×(List UInt8)))×(List UInt8)) (fun k50=>
  Option.bind (chk ((BC v48 32).isNone=true)) fun _=>
  An (σ:=(List (Int×(List UInt8)))×(List UInt8)) (fun (v51,v52)=>
   k50 (v51,v52)
  ) (fun next53 (x54:JAF) i55 (v51,v52)=>
   Option.bind (AT x54.A 4) fun v56=>
   Option.bind (apnd (α:=UInt8) 1 v52 v56) fun v57=>
   Option.bind (AT x54.B 4) fun v58=>
   Option.bind (apnd (α:=UInt8) 1 v57 v58) fun v59=>
   Option.bind (AT x54.C 4) fun v60=>
   Option.bind (apnd (α:=UInt8) 1 v59 v60) fun v61=>
   next53 ((C2 v51 32 v61),v61)
  ) a0.JAF 0 (v48,[])
 ) fun (v62,v63)=>
 AC (τ:=(List (Int×(List UInt8)))) (fun k64=>
  if (decide (a0.OTC ≥ 0)) then
   Option.bind (AT a0.OTC 4) fun v65=>
   k64 (C2 v62 35 v65)
  else
   k64 v62
 ) fun v66=>
 AC (τ:=(List JAA)) (fun k67=>
  A7 (σ:=Int×(List JAA)) (fun next68 (v69,v70)=>
   if (decide (v69<256)) then
    AC (τ:=(List JAA)) (fun k71=>
     Option.bind (some (Option.getD (BC v66 v69) [])) fun v72=>
     Option.bind (some (Option.isSome (BC v66 v69))) fun v73=>
     AC (τ:=(List JAA)) (fun k74=>
      if v73 then
       Option.bind (Bf v69) fun v75=>
       Option.bind (apnd (α:=UInt8) 1 [] v72) fun _=>
       Option.bind (apnd (α:=JAA) 40 v70 ([(⟨v75,v69,v72⟩:JAA)]:List JAA)) fun v76=>
       k74 v76
      else
       k74 v70
     ) fun v77=>
     AC (τ:=(List JAA)) (fun k78=>
      An (σ:=(List JAA)) (fun v79=>
       k78 v79
      ) (fun next80 (x81:JAA) i82 v79=>
       AC (τ:=(List JAA)) (fun k83=>
        if (x81.Type_==v69) then
         Option.bind (apnd (α:=UInt8) 1 [] x81.Data) fun _=>
         Option.bind (apnd (α:=JAA) 40 v79 ([{ x81 with Type_:=v69 }]:List JAA)) fun v84=>
         k83 v84
        else
         k83 v79
       ) fun v85=>
       next80 v85
      ) a0.Other 0 v77
     ) fun v86=>
     k71 v86
    ) fun v87=>
    next68 ((AI (v69+1)),v87)
   else
    k67 v70
  ) fuel (0,[])
 ) fun v88=>
 some (v88,0)
def WR5 (a0:JAD)(v34:List (Int×(List UInt8))):Option ((List JAA)×Int):=
 AC (τ:=(List (Int×(List UInt8)))) (fun k35=>
  if (decide (a0.Pref ≥ 0)) then
   Option.bind (AT a0.Pref 4) fun v36=>
   k35 (C2 v34 5 v36)
  else
   k35 v34
 ) fun v37=>
 AC (τ:=(List (Int×(List UInt8)))×(List UInt8)) (fun k38=>
  Option.bind (chk ((BC v37 8).isNone=true)) fun _=>
  An (σ:=(List (Int×(List UInt8)))×(List UInt8)) (fun (v39,v40)=>
   k38 (v39,v40)
  ) (fun next41 (x42:JAB) i43 (v39,v40)=>
   Option.bind (AT x42.A 2) fun v44=>
   Option.bind (apnd (α:=UInt8) 1 v40 v44) fun v45=>
   Option.bind (AT x42.B 2) fun v46=>
   Option.bind (apnd (α:=UInt8) 1 v45 v46) fun v47=>
   next41 ((C2 v39 8 v47),v47)
  ) a0.Communities 0 (v37,[])
 ) fun (v48,v49)=>
 AC (τ:=(List (Int×(List UInt8)))×(List UInt8)) (fun k50=>
  Option.bind (chk ((BC v48 32).isNone=true)) fun _=>
  An (σ:=(List (Int×(List UInt8)))×(List UInt8)) (fun (v51,v52)=>
   k50 (v51,v52)
  ) (fun next53 (x54:JAF) i55 (v51,v52)=>
   Option.bind (AT x54.A 4) fun v56=>
   Option.bind (apnd (α:=UInt8) 1 v52 v56) fun v57=>
   Option.bind (AT x54.B 4) fun v58=>
   Option.bind (apnd (α:=UInt8) 1 v57 v58) fun v59=>
   Option.bind (AT x54.C 4) fun v60=>
   Option.bind (apnd (α:=UInt8) 1 v59 v60) fun v61=>
   next53 ((C2 v51 32 v61),v61)
  ) a0.JAF 0 (v48,[])
 ) fun (v62,v63)=>
 AC (τ:=(List (Int×(List UInt8)))) (fun k64=>
  if (decide (a0.OTC ≥ 0)) then
   Option.bind (AT a0.OTC 4) fun v65=>
   k64 (C2 v62 35 v65)
  else
   k64 v62
 ) fun v66=>
 AC (τ:=(List JAA)) (fun k67=>
  A7 (σ:=Int×(List JAA)) (fun next68 (v69,v70)=>
   if (decide (v69<256)) then
    AC (τ:=(List JAA)) (fun k71=>
     Option.bind (some (Option.getD (BC v66 v69) [])) fun v72=>
     Option.bind (some (Option.isSome (BC v66 v69))) fun v73=>
     AC (τ:=(List JAA)) (fun k74=>
      if v73 then
       Option.bind (Bf v69) fun v75=>
       Option.bind (apnd (α:=UInt8) 1 [] v72) fun _=>
       Option.bind (apnd (α:=JAA) 40 v70 ([(⟨v75,v69,v72⟩:JAA)]:List JAA)) fun v76=>
       k74 v76
      else
       k74 v70
     ) fun v77=>
     AC (τ:=(List JAA)) (fun k78=>
      An (σ:=(List JAA)) (fun v79=>
       k78 v79
      ) (fun next80 (x81:JAA) i82 v79=>
       AC (τ:=(List JAA)) (fun k83=>
        if (x81.Type_==v69) then
         Option.bind (apnd (α:=UInt8) 1 [] x81.Data) fun _=>
         Option.bind (apnd (α:=JAA) 40 v79 ([{ x81 with Type_:=v69 }]:List JAA)) fun v84=>
         k83 v84
        else
         k83 v79
       ) fun v85=>
       next80 v85
      ) a0.Other 0 v77
     ) fun v86=>
     k71 v86
    ) fun v87=>
    next68 ((AI (v69+1)),v87)
   else
    k67 v70
  ) fuel (0,[])
 ) fun v88=>
 some (v88,0)
def WR8 (a0:JAD)(v37:List (Int×(List UInt8))):Option ((List JAA)×Int):=
 AC (τ:=(List (Int×(List UInt8)))×(List UInt8)) (fun k38=>
  Option.bind (chk ((BC v37 8).isNone=true)) fun _=>
  An (σ:=(List (Int×(List UInt8)))×(List UInt8)) (fun (v39,v40)=>
   k38 (v39,v40)
  ) (fun next41 (x42:JAB) i43 (v39,v40)=>
   Option.bind (AT x42.A 2) fun v44=>
   Option.bind (apnd (α:=UInt8) 1 v40 v44) fun v45=>
   Option.bind (AT x42.B 2) fun v46=>
   Option.bind (apnd (α:=UInt8) 1 v45 v46) fun v47=>
   next41 ((C2 v39 8 v47),v47)
  ) a0.Communities 0 (v37,[])
 ) fun (v48,v49)=>
 AC (τ:=(List (Int×(List UInt8)))×(List UInt8)) (fun k50=>
  Option.bind (chk ((BC v48 32).isNone=true)) fun _=>
  An (σ:=(List (Int×(List UInt8)))×(List UInt8)) (fun (v51,v52)=>
   k50 (v51,v52)
  ) (fun next53 (x54:JAF) i55 (v51,v52)=>
   Option.bind (AT x54.A 4) fun v56=>
   Option.bind (apnd (α:=UInt8) 1 v52 v56) fun v57=>
   Option.bind (AT x54.B 4) fun v58=>
   Option.bind (apnd (α:=UInt8) 1 v57 v58) fun v59=>
   Option.bind (AT x54.C 4) fun v60=>
   Option.bind (apnd (α:=UInt8) 1 v59 v60) fun v61=>
   next53 ((C2 v51 32 v61),v61)
  ) a0.JAF 0 (v48,[])
 ) fun (v62,v63)=>
 AC (τ:=(List (Int×(List UInt8)))) (fun k64=>
  if (decide (a0.OTC ≥ 0)) then
   Option.bind (AT a0.OTC 4) fun v65=>
   k64 (C2 v62 35 v65)
  else
   k64 v62
 ) fun v66=>
 AC (τ:=(List JAA)) (fun k67=>
  A7 (σ:=Int×(List JAA)) (fun next68 (v69,v70)=>
   if (decide (v69<256)) then
    AC (τ:=(List JAA)) (fun k71=>
     Option.bind (some (Option.getD (BC v66 v69) [])) fun v72=>
     Option.bind (some (Option.isSome (BC v66 v69))) fun v73=>
     AC (τ:=(List JAA)) (fun k74=>
      if v73 then
       Option.bind (Bf v69) fun v75=>
       Option.bind (apnd (α:=UInt8) 1 [] v72) fun _=>
       Option.bind (apnd (α:=JAA) 40 v70 ([(⟨v75,v69,v72⟩:JAA)]:List JAA)) fun v76=>
       k74 v76
      else
       k74 v70
     ) fun v77=>
     AC (τ:=(List JAA)) (fun k78=>
      An (σ:=(List JAA)) (fun v79=>
       k78 v79
      ) (fun next80 (x81:JAA) i82 v79=>
       AC (τ:=(List JAA)) (fun k83=>
        if (x81.Type_==v69) then
         Option.bind (apnd (α:=UInt8) 1 [] x81.Data) fun _=>
         Option.bind (apnd (α:=JAA) 40 v79 ([{ x81 with Type_:=v69 }]:List JAA)) fun v84=>
         k83 v84
        else
         k83 v79
       ) fun v85=>
       next80 v85
      ) a0.Other 0 v77
     ) fun v86=>
     k71 v86
    ) fun v87=>
    next68 ((AI (v69+1)),v87)
   else
    k67 v70
  ) fuel (0,[])
 ) fun v88=>
 some (v88,0)
def WRk (a0:JAD)(v66:List (Int×(List UInt8))):Option ((List JAA)×Int):=
 AC (τ:=(List JAA)) (fun k67=>
  A7 (σ:=Int×(List JAA)) (fun next68 (v69,v70)=>
   if (decide (v69<256)) then
    AC (τ:=(List JAA)) (fun k71=>
     Option.bind (some (Option.getD (BC v66 v69) [])) fun v72=>
     Option.bind (some (Option.isSome (BC v66 v69))) fun v73=>
     AC (τ:=(List JAA)) (fun k74=>
      if v73 then
       Option.bind (Bf v69) fun v75=>
       Option.bind (apnd (α:=UInt8) 1 [] v72) fun _=>
       Option.bind (apnd (α:=JAA) 40 v70 ([(⟨v75,v69,v72⟩:JAA)]:List JAA)) fun v76=>
       k74 v76
      else
       k74 v70
     ) fun v77=>
     AC (τ:=(List JAA)) (fun k78=>
      An (σ:=(List JAA)) (fun v79=>
       k78 v79
      ) (fun next80 (x81:JAA) i82 v79=>
       AC (τ:=(List JAA)) (fun k83=>
        if (x81.Type_==v69) then
         Option.bind (apnd (α:=UInt8) 1 [] x81.Data) fun _=>
         Option.bind (apnd (α:=JAA) 40 v79 ([{ x81 with Type_:=v69 }]:List JAA)) fun v84=>
         k83 v84
        else
         k83 v79
       ) fun v85=>
       next80 v85
      ) a0.Other 0 v77
     ) fun v86=>
     k71 v86
    ) fun v87=>
    next68 ((AI (v69+1)),v87)
   else
    k67 v70
  ) fuel (0,[])
 ) fun v88=>
 some (v88,0)
theorem Gz (a:JAD)(k:Int):(ent a k).length<=1:=by unfold ent;split<;>simp
theorem cL (l:List JAA)(k:Int):(ofK l k).length<=l.length:=K1 (fun x=>by split<;>simp) l
structure Puts (m:List (Int×List UInt8))(a:JAD)(ks:List Int):Prop where
 h :∀k,BC m k=if k∈ks then G a k else none
theorem Puts.add {m:List (Int×List UInt8)}{a:JAD}{ks:List Int}(p:Puts m a ks)(k:Int){b:List UInt8}(hb:G a k=some b):Puts (C2 m k b) a (k::ks):=⟨fun j=>by
 rw[Go.AX.mget_mset,p.h]
 by_cases h:j=k
 ·subst h;simp[hb]
 have:(j==k)=false:=by simpa using h
 rw[this];simp[h]⟩
theorem Puts.skip {m:List (Int×List UInt8)}{a:JAD}{ks:List Int}(p:Puts m a ks)(k:Int)(hb:G a k=none):Puts m a (k::ks):=⟨fun j=>by
 rw[p.h]
 by_cases h:j=k
 ·subst h;simp[hb]
 simp[h]⟩
theorem fH {β ρ:Type}{w:β->List UInt8}{k:Int}{N:Nat}{K:List (Int×List UInt8)×List UInt8->Option ρ}{body:(List (Int×List UInt8)×List UInt8->Option ρ)->β->Nat->List (Int×List UInt8)×List UInt8->Option ρ}{l:List β}{m:List (Int×List UInt8)}
  {R:Option ρ} (hN:(l.flatMap w).length<=N) (hb :∀next x i m b,x∈l->b.length+(w x).length<=N->body next x i (m,b)=next (C2 m k (b++w x),b++w x))
  (hK :∀m' b',(∀j,BC m' j=if l≠[]/\j=k then some (l.flatMap w) else BC m j)->K (m',b')=R):An K body l 0 (m,[])=R:=by
 have key :∀(t:List β) (i:Nat) (m:List (Int×List UInt8)) (b:List UInt8),(∀x∈t,x∈l)->b.length+(t.flatMap w).length<=N->∃m' b',An K body t i (m,b)=K (m',b')/\∀j,BC m' j=if t≠[]/\j=k then some (b++t.flatMap w) else BC m j:=by
  intro t
  induction t with
  | nil=>intro i m b _ _;exact⟨m,b,rfl,fun j=>by simp⟩
  | cons x t ih=>
   intro i m b hx hl
   rw[List.flatMap_cons,X11] at hl
   obtain⟨m',b',e,h⟩:=ih (i+1) (C2 m k (b++w x)) (b++w x) (fun y hy=>hx y (X19 _ hy)) (by rw[X11];omega)
   refine⟨m',b',?_,fun j=>?_⟩
   ·show body (fun s=>An K body t (i+1) s) x i (m,b)=_
    rw[hb _ x i m b (hx x (by simp)) (by omega)]
    exact e
   rw[h j,Go.AX.mget_mset]
   by_cases hj:j=k
   ·subst hj
    by_cases ht:t=[]
    ·subst ht;simp
    simp[ht,List.flatMap_cons]
   simp[hj]
 obtain⟨m',b',e,h⟩:=key l 0 m [] (fun _ h=>h) (by simpa using hN)
 rw[e]
 exact hK m' b' fun j=>by rw[h j,List.nil_append]
theorem dC {a:JAD}{m:List (Int×List UInt8)}{ρ:Type}{K:List JAA->Option ρ}(hO:a.Other.length<=1000000)(hd :∀x∈a.Other,x.Data.length<=1000000)(hg :∀k b,G a k=some b->b.length<=1000000)
  (hm :∀k,BC m k=G a k) :
  AC (τ:=(List JAA)) (fun k67=>
   A7 (σ:=Int×(List JAA)) (fun next68 p=>match p with
    | (v69,v70)=>if (decide (v69<256))=true then
     AC (τ:=(List JAA)) (fun k71=>
      Option.bind (some (Option.getD (BC m v69) [])) fun v72=>
      Option.bind (some (Option.isSome (BC m v69))) fun v73=>
      AC (τ:=(List JAA)) (fun k74=>
       if v73=true then
        Option.bind (Bf v69) fun v75=>
        Option.bind (apnd (α:=UInt8) 1 [] v72) fun _=>
        Option.bind (apnd (α:=JAA) 40 v70 ([(⟨v75,v69,v72⟩:JAA)]:List JAA)) fun v76=>
        k74 v76
       else
        k74 v70
      ) fun v77=>
      AC (τ:=(List JAA)) (fun k78=>
       An (σ:=(List JAA)) (fun v79=>
        k78 v79
       ) (fun next80 (x81:JAA) i82 v79=>
        AC (τ:=(List JAA)) (fun k83=>
         if (x81.Type_==v69)=true then
          Option.bind (apnd (α:=UInt8) 1 [] x81.Data) fun _=>
          Option.bind (apnd (α:=JAA) 40 v79 ([{ x81 with Type_:=v69 }]:List JAA)) fun v84=>
          k83 v84
         else
          k83 v79
        ) fun v85=>
        next80 v85
       ) a.Other 0 v77
      ) fun v86=>
      k71 v86
     ) fun v87=>
     next68 ((AI (v69+1)),v87)
    else
     k67 v70
   ) fuel (0,[])
  ) K=K (wrS a):=by
 rw[AB]
 refine (Da (fun s:Int×List JAA=>∃k:Nat,s.1=k/\k<=256/\s.2.length<=k*1000001) (fun s=>(256-s.1).toNat) (fun s=>K (s.2++(List.range' s.1.toNat (256-s.1.toNat)).flatMap fun (k:Nat)=>ent a k++ofK a.Other k)) ?_ fuel (0,[]) ⟨0,rfl,by omega,by simp⟩ (CE (by simp only;omega))).trans rfl
 rintro next ⟨kk,v⟩ ⟨k,rfl,hk2,hv⟩ hn
 dsimp only at hv ⊢
 by_cases hk:k<256
 ·rw[if_pos (by simp only[decide_eq_true_eq];omega),AB,AA,AA,hm]
  have he:=Gz a k
  have hent :∀q:List JAA->Option ρ,AC (τ:=(List JAA)) (fun k74=>
       if (G a k).isSome=true then
        Option.bind (Bf k) fun v75=>
        Option.bind (apnd (α:=UInt8) 1 [] ((G a k).getD [])) fun _=>
        Option.bind (apnd (α:=JAA) 40 v ([(⟨v75,k,((G a k).getD [])⟩:JAA)]:List JAA)) fun v76=>
        k74 v76
       else
        k74 v
      ) q=q (v++ent a k):=by
   intro q
   rw[AB]
   unfold ent
   cases hG:G a k with
   | none=>rw[if_neg (by decide),List.append_nil]
   | some b=>
    have:=hg k b hG
    rw[if_pos (show (some b).isSome=true from rfl),Jy,AA,Option.getD_some,AO (by decide) (by simp;omega),AA,AO (by decide) (by simp;omega),AA]
  rw[hent,AB]
  have hlen:=cL a.Other k
  refine (QE (g:=fun x:JAA=>if (x.Type_==(k:Int))=true then [x] else []) (N:=(k+1)*1000001) (by unfold ofK at hlen;rw[X11];omega) fun next2 x i w hx hw=>?_).trans ?_
  ·rw[AB]
   by_cases hc:(x.Type_==(k:Int))=true
   ·rw[if_pos hc] at hw
    have:=hd x hx
    simp only[X22] at hw
    rw[if_pos hc,if_pos hc,AO (by decide) (by simp;omega),AA,AO (by decide) (by simp;omega),AA]
    have e:x.Type_=(k:Int):=by simpa using hc
    rw[<- e]
   rw[if_neg hc,if_neg hc,List.append_nil]
  show next (AI ((k:Int)+1),v++ent a k++ofK a.Other k)=_
  rw[AP (by omega),hn _ ⟨k+1,by simp,by omega,by simp only[X11];omega⟩ (by simp only;omega)]
  have e1:((k:Int)+1).toNat=k+1:=by omega
  have e2:256-k=(256-(k+1))+1:=by omega
  simp only[e1,Int.toNat_natCast]
  rw[e2,List.range'_succ,List.flatMap_cons,List.append_assoc,List.append_assoc,List.append_assoc]
 rw[if_neg (by simp only[decide_eq_true_eq];omega)]
 have:256-(k:Int).toNat=0:=by omega
 rw[this]
 simp
structure VA (a:JAD):Prop where
 O:EM a.Other=true
 o:-1<=a.Origin/\a.Origin<=2
 p:F5 a.Path=true
 n:a.Next.ok=true
 m:-1<=a.MED/\a.MED<=4294967295
 r:-1<=a.Pref/\a.Pref<=4294967295
 t:a.OTC=-1\/(1<=a.OTC/\a.OTC<=4294967295)
 c:EV a.Communities=true
 l:ET a.JAF=true
 e:a.Other.length<=8
theorem OD {a:JAD}:Gp a=true↔VA a:=by
 unfold Gp KQ
 simp only[X27,Bool.or_eq_true,decide_eq_true_eq]
 constructor
 ·rintro⟨h1,h2,h3,h4,h5,h6,h7,h8,h9,h10⟩
  exact⟨h1,h2,h3,h4,h5,h6,h7,h8,h9,h10⟩
 rintro⟨h1,h2,h3,h4,h5,h6,h7,h8,h9,h10⟩
 exact⟨h1,h2,h3,h4,h5,h6,h7,h8,h9,h10⟩
theorem G5 {p:List JAE}(h:F5 p=true):p.length<=tot p/\tot p<=64:=by
 unfold F5 at h
 simp only[X27,List.all_eq_true,decide_eq_true_eq] at h
 refine⟨?_,h.2⟩
 have h1:=h.1.1
 clear h
 induction p with
 | nil=>exact Nat.le_refl _
 | cons s t ih=>
  rw[EY,X12]
  have h2:=ih fun x hx=>h1 x (X19 _ hx)
  have h3:=h1 s (by simp)
  simp only[Ox,X27,decide_eq_true_eq] at h3
  omega
theorem VA.sm {a:JAD}(v:VA a):SmT a:=by
 obtain⟨h1,h2⟩:=G5 v.p
 have h3:=(Ez.1 v.c).2.2
 have h4:=(FD.1 v.l).2.2
 have h5:=v.e
 exact⟨by omega,by omega,by omega,by omega,by omega,fun u hu=>by have:=(Dx v.O hu).2.2.2.2;omega⟩
theorem ci {a:JAD}(v:VA a){k:Int}{b:List UInt8}(h:G a k=some b):b.length<=768:=by
 obtain⟨h1,h2⟩:=G5 v.p
 have h3:=(Ez.1 v.c).2.2
 have h4:=(FD.1 v.l).2.2
 unfold G at h
 split at h
 ·split at h
  ·obtain rfl:=X25 h;simp
  cases h
 split at h
 ·split at h
  ·obtain rfl:=X25 h;rw[OS];omega
  cases h
 split at h
 ·split at h
  ·obtain rfl:=X25 h;simp[b4]
  cases h
 split at h
 ·split at h
  ·obtain rfl:=X25 h;rw[N1];omega
  cases h
 split at h
 ·split at h
  ·obtain rfl:=X25 h;rw[N1];omega
  cases h
 split at h
 ·split at h
  ·obtain rfl:=X25 h;rw[LI];omega
  cases h
 split at h
 ·split at h
  ·obtain rfl:=X25 h;rw[LK];omega
  cases h
 split at h
 ·split at h
  ·obtain rfl:=X25 h;rw[N1];omega
  cases h
 cases h
theorem Yw {a:JAD}(v:VA a):GB a=some (wrS a,0):=by
 have hs:=G5 v.p
 have hc:=(Ez.1 v.c).2.2
 have hl:=(FD.1 v.l).2.2
 unfold GB
 rw[Si v.sm,AA,OD.2 v,if_neg (by decide)]
 have p0:Puts [] a []:=⟨fun k=>by simp[BC]⟩
 rw[Ii]
 have p1:Puts (if decide (a.Origin ≥ 0)=true then C2 ([]:List (Int×List UInt8)) (1:Int) [Aa a.Origin] else []) a [1]:=by
  by_cases h:a.Origin ≥ 0
  ·rw[if_pos (by simpa using h)]
   exact p0.add 1 (by unfold G;rw[if_pos rfl,if_pos (by omega)])
  rw[if_neg (by simpa using h)]
  exact p0.skip 1 (by unfold G;rw[if_pos rfl,if_neg (by have:=v.o;omega)])
 generalize (if decide (a.Origin ≥ 0)=true then C2 ([]:List (Int×List UInt8)) (1:Int) [Aa a.Origin] else [])=m1 at p1
 rw[Ii]
 have eb:(if decide (a.Origin ≥ 0)=true then true else (cond false true (decide ((a.Path.length:Int) > 0))))=decide (a.Origin≠-1\/a.Path≠[]):=by
  have:=v.o
  have e:(a.Path≠[])↔0<a.Path.length:=List.length_pos_iff.symm
  by_cases h:a.Origin ≥ 0
  ·rw[if_pos (by simpa using h),decide_eq_true (.inl (by omega))]
  rw[if_neg (by simpa using h),cond_false]
  have h1:a.Origin=-1:=by omega
  have e2:(a.Origin≠-1\/a.Path≠[])↔0<a.Path.length:=by rw[e];omega
  rw[X28,decide_eq_true_eq,decide_eq_true_eq,e2]
  omega
 rw[eb,AB]
 have step2 :∃m2,Puts m2 a [2,1]/\∀(ρ:Type) (q:List (Int×List UInt8)->Option ρ),(if decide (a.Origin≠-1\/a.Path≠[])=true then q (C2 m1 2 (F9 a.Path)) else q m1)=q m2:=by
  by_cases h:a.Origin≠-1\/a.Path≠[]
  ·exact⟨_,p1.add 2 (by unfold G;rw[if_neg (by decide),if_pos rfl,if_pos h]),fun ρ q=>by rw[if_pos (by simpa using h)]⟩
  exact⟨_,p1.skip 2 (by unfold G;rw[if_neg (by decide),if_pos rfl,if_neg h]),fun ρ q=>by rw[if_neg (by simpa using h)]⟩
 rw[aS (by omega)]
 obtain⟨m2,p2,e2⟩:=step2
 refine (e2 _ (WR3 a)).trans ?_
 unfold WR3
 have en :∀{ρ:Type} (q:Bool->Option ρ),AC (τ:=Bool) (fun k27=>if (!(Addr.eqd a.Next (⟨false,(0:UInt64),(0:UInt64)⟩:Addr)))=true then k27 (cond true (!a.Next.V6) false) else k27 false) q=q (Fj a):=by
  intro ρ q
  rw[AB]
  unfold Fj
  cases a.Next.V6<;>cases Addr.eqd a.Next ⟨false,0,0⟩<;>rfl
 refine (en _).trans ?_
 rw[AB]
 have step3 :∃m3,Puts m3 a [3,2,1]/\∀(ρ:Type) (q:List (Int×List UInt8)->Option ρ),(if Fj a=true then Option.bind (Bl a.Next) fun v30=>q (C2 m2 3 v30) else q m2)=q m3:=by
  by_cases h:Fj a=true
  ·have h6:a.Next.V6=false:=by
    unfold Fj at h
    cases h6:a.Next.V6
    ·rfl
    rw[h6] at h;simp at h
   exact⟨_,p2.add 3 (by unfold G;rw[if_neg (by decide),if_neg (by decide),if_pos rfl,if_pos h]),fun ρ q=>by rw[if_pos h,ZE v.n h6,AA]⟩
  exact⟨_,p2.skip 3 (by unfold G;rw[if_neg (by decide),if_neg (by decide),if_pos rfl,if_neg h]),fun ρ q=>by rw[if_neg h]⟩
 obtain⟨m3,p3,e3⟩:=step3
 refine (e3 _ (WR4 a)).trans ?_
 unfold WR4
 rw[AB]
 have step4 :∃m4,Puts m4 a [4,3,2,1]/\∀(ρ:Type) (q:List (Int×List UInt8)->Option ρ),(if decide (a.MED ≥ 0)=true then Option.bind (AT a.MED 4) fun v33=>q (C2 m3 4 v33) else q m3)=q m4:=by
  have:=v.m
  by_cases h:a.MED ≥ 0
  ·exact⟨_,p3.add 4 (by unfold G;rw[if_neg (by decide),if_neg (by decide),if_neg (by decide),if_pos rfl,if_pos (by omega)]),fun ρ q=>by rw[if_pos (by simpa using h),RN,AA]⟩
  exact⟨_,p3.skip 4 (by unfold G;rw[if_neg (by decide),if_neg (by decide),if_neg (by decide),if_pos rfl,if_neg (by omega)]),fun ρ q=>by rw[if_neg (by simpa using h)]⟩
 obtain⟨m4,p4,e4⟩:=step4
 refine (e4 _ (WR5 a)).trans ?_
 unfold WR5
 rw[AB]
 have step5 :∃m5,Puts m5 a [5,4,3,2,1]/\∀(ρ:Type) (q:List (Int×List UInt8)->Option ρ),(if decide (a.Pref ≥ 0)=true then Option.bind (AT a.Pref 4) fun v33=>q (C2 m4 5 v33) else q m4)=q m5:=by
  have:=v.r
  by_cases h:a.Pref ≥ 0
  ·exact⟨_,p4.add 5 (by unfold G;rw[if_neg (by decide),if_neg (by decide),if_neg (by decide),if_neg (by decide),if_pos rfl,if_pos (by omega)]),fun ρ q=>by rw[if_pos (by simpa using h),RN,AA]⟩
  exact⟨_,p4.skip 5 (by unfold G;rw[if_neg (by decide),if_neg (by decide),if_neg (by decide),if_neg (by decide),if_pos rfl,if_neg (by omega)]),fun ρ q=>by rw[if_neg (by simpa using h)]⟩
 obtain⟨m5,p5,e5⟩:=step5
 refine (e5 _ (WR8 a)).trans ?_
 unfold WR8
 have ck8:chk ((BC m5 8).isNone=true)=some ():=by
  have hn:BC m5 8=none:=by rw[p5.h,if_neg (by decide)]
  unfold chk
  rw[hn]
  rfl
 rw[AB,ck8,AA]
 refine fH (w:=Ht) (k:=8) (N:=1000000) (l:=a.Communities) (by rw[LI];omega) (fun next x i m b _ hb=>by
  rw[OJ] at hb
  dsimp only
  rw[cr,AA,AO (by decide) (by simp[w2];omega),AA,cr,AA,AO (by decide) (by simp[w2];omega),AA,List.append_assoc]
  rfl) fun m8 b8 h8=>?_
 have p8:Puts m8 a [8,5,4,3,2,1]:=⟨fun j=>by
  rw[h8 j,p5.h]
  by_cases hj:j=8
  ·subst hj
   have:G a 8=if a.Communities≠[] then some (a.Communities.flatMap Ht) else none:=rfl
   simp[this]
  simp[hj]⟩
 dsimp only
 have ck32:chk ((BC m8 32).isNone=true)=some ():=by
  have hn:BC m8 32=none:=by rw[p8.h,if_neg (by decide)]
  unfold chk
  rw[hn]
  rfl
 rw[AB,ck32,AA]
 refine fH (w:=GV) (k:=32) (N:=1000000) (l:=a.JAF) (by rw[LK];omega) (fun next x i m b _ hb=>by
  rw[MA] at hb
  dsimp only
  rw[RN,AA,AO (by decide) (by simp[w4];omega),AA,RN,AA,AO (by decide) (by simp[w4];omega),AA,RN,AA,AO (by decide) (by simp[w4];omega),AA,List.append_assoc,List.append_assoc]
  rfl) fun m9 b9 h9=>?_
 have p9:Puts m9 a [32,8,5,4,3,2,1]:=⟨fun j=>by
  rw[h9 j,p8.h]
  by_cases hj:j=32
  ·subst hj
   have:G a 32=if a.JAF≠[] then some (a.JAF.flatMap GV) else none:=rfl
   simp[this]
  simp[hj]⟩
 dsimp only
 rw[AB]
 have step35 :∃m10,Puts m10 a [35,32,8,5,4,3,2,1]/\∀(ρ:Type) (q:List (Int×List UInt8)->Option ρ),(if decide (a.OTC ≥ 0)=true then Option.bind (AT a.OTC 4) fun v33=>q (C2 m9 35 v33) else q m9)=q m10:=by
  have:=v.t
  have hG:G a 35=if a.OTC≠-1 then some (w4 a.OTC) else none:=rfl
  by_cases h:a.OTC ≥ 0
  ·exact⟨_,p9.add 35 (by rw[hG,if_pos (by omega)]),fun ρ q=>by rw[if_pos (by simpa using h),RN,AA]⟩
  exact⟨_,p9.skip 35 (by rw[hG,if_neg (by omega)]),fun ρ q=>by rw[if_neg (by simpa using h)]⟩
 obtain⟨m10,p10,e10⟩:=step35
 refine (e10 _ (WRk a)).trans ?_
 unfold WRk
 refine (dC (a:=a) (by have:=v.e;omega) (fun x hx=>by have:=(Dx v.O hx).2.2.2.2;omega) (fun k b h=>by have:=ci v h;omega) fun k=>?_).trans rfl
 rw[p10.h]
 split
 ·rfl
 rename_i hk
 simp only[List.mem_cons,List.not_mem_nil,or_false,not_or] at hk
 unfold G
 rw[if_neg hk.2.2.2.2.2.2.2,if_neg hk.2.2.2.2.2.2.1,if_neg hk.2.2.2.2.2.1,if_neg hk.2.2.2.2.1,if_neg hk.2.2.2.1,if_neg hk.2.2.1,if_neg hk.2.1,if_neg hk.1]
theorem aF {v:List JAA}{k f:Int}{d:List UInt8}{c:Bool}{ρ:Type}{K:List JAA->Option ρ}(hf:fl k=f)(hv:v.length<=1000000) :
  AC (τ:=(List JAA)) (fun k33=>
   AC (τ:=(List JAA)) (fun k34=>
    if c=true then
     Option.bind (some (Option.getD (BC Bz k) 0)) fun v35=>
     Option.bind (apnd (α:=JAA) 40 v ([(⟨v35,k,d⟩:JAA)]:List JAA)) fun v36=>
     k34 v36
    else
     k34 v
   ) fun v37=>
   k33 v37
  ) K=K (v++if c=true then [⟨fl k,k,d⟩] else []):=by
 rw[AB,AB,LJ]
 cases c
 ·rw[if_neg (by decide),if_neg (by decide),List.append_nil]
 rw[if_pos rfl,if_pos rfl,AA,AO (by decide) (by simp;omega),AA]
theorem YY (a b:JAA):DL a b=some (FT (HS a) (HS b)):=QL a b
def OU:List Int:=[1,2,3,4,5,8,32,35]
def Pg (a:JAD):List JAA:=OU.flatMap (ent a)++a.Other
theorem YX {a:JAD}{k:Int}{y:JAA}(h:y∈ent a k):k∈OU:=by
 obtain⟨b,hb,_⟩:=Fh.1 h
 rcases Ep k with ⟨e,_⟩|⟨e,_⟩|⟨e,_⟩|⟨e,_⟩|⟨e,_⟩|⟨e,_⟩|⟨e,_⟩|⟨e,_⟩|e
 iterate 8 (subst e;decide)
 rw[MM e.2.2.2.2.2.2.2.2] at hb;cases hb
theorem aH {a:JAD}{y:JAA}:y∈Pg a↔(∃k,y∈ent a k)\/y∈a.Other:=by
 unfold Pg
 rw[X23,List.mem_flatMap]
 exact⟨fun h=>h.imp_left fun ⟨k,_,h⟩=>⟨k,h⟩,fun h=>h.imp_left fun ⟨k,h⟩=>⟨k,YX h,h⟩⟩
theorem Yf {a:JAD}(hO:EM a.Other=true):(Pg a).Pairwise fun x y=>HS x≠HS y:=by
 unfold Pg
 have hk :∀{x y:JAA},x.Type_≠y.Type_->HS x≠HS y:=fun h e=>h (by simpa[HS] using e)
 refine List.pairwise_append.2 ⟨?_,(I9 hO).imp fun {x y} h=>hk (by simp only[ltT,decide_eq_true_eq] at h;omega),fun x hx y hy=>hk fun e=>?_⟩
 ·rw[List.pairwise_flatMap]
  refine⟨fun k _=>?_,?_⟩
  ·unfold ent
   split
   ·exact List.pairwise_singleton _ _
   exact .nil
  have:OU.Pairwise (·≠·):=by decide
  exact this.imp fun {k j} h x hx y hy=>hk (by rw[M4 hx,M4 hy];exact h)
 obtain⟨k,_,hx⟩:=List.mem_flatMap.1 hx
 obtain⟨b,hb,_⟩:=Fh.1 hx
 have:=TZ (Dx hO hy).1
 rw[<- e,M4 hx] at this
 rw[MM this] at hb;cases hb
theorem S7 {a:JAD}(hO:EM a.Other=true)(hl:(Pg a).length<=1000000):EP DL (Pg a)=some (wrS a):=by
 obtain⟨r,h1,h2,h3⟩:=NN Fe YY (l:=Pg a) (by omega)
 rw[h1]
 congr 1
 refine Pz Fe (OL Fe h3 ?_) (Ob hO) fun x=>?_
 ·exact (h2.pairwise_iff fun h e=>h e.symm).2 (Yf hO)
 rw[h2.mem_iff,aH,Ja hO]
theorem eI {l:List JAA}(hl:l.length<=1000)(hd :∀x∈l,x.Data.length<=1000000){v:List JAA}(hv:v.length<=1000){ρ:Type}{K:List JAA->Option ρ} :
  AC (τ:=(List JAA)) (fun k67=>
   An (σ:=(List JAA)) (fun v68=>
    k67 v68
   ) (fun next69 (x70:JAA) i71 v68=>
    Option.bind (A8 x70.Data) fun v72=>
    Option.bind (apnd (α:=JAA) 40 v68 ([{ x70 with Data:=v72 }]:List JAA)) fun v73=>
    next69 v73
   ) l 0 v
  ) K=K (v++l):=by
 rw[AB]
 have e:l.flatMap (fun x=>[x])=l:=by simp
 refine (QE (g:=fun x:JAA=>[x]) (N:=100000) (by rw[e];omega) fun next x i w hx hw=>?_).trans (by rw[e])
 have:=hd x hx
 simp only[X22] at hw
 unfold A8
 rw[AO (by decide) (by simp;omega),AA,AA,List.nil_append,AO (by decide) (by simp;omega),AA]
theorem Q3 (a:JAD):(OU.flatMap (ent a)).length<=8:=K1 (Gz a) OU
theorem Ua {a:JAD}(v:VA a):(wrS a).length<=16:=by
 have h:=Gh (S7 v.O (by unfold Pg;rw[X11];have:=Q3 a;have:=v.e;omega))
 rw[h]
 unfold Pg
 rw[X11]
 have:=Q3 a
 have:=v.e
 omega
theorem UD {a:JAD}(v:VA a){x:JAA}(h:x∈wrS a):x.Data.length<=768:=by
 rcases (Ja v.O).1 h with ⟨k,h⟩|h
 ·obtain⟨b,hb,rfl⟩:=Fh.1 h
  exact ci v hb
 have:=(Dx v.O h).2.2.2.2
 omega
theorem dF (l:List Int):MR l=some ⟨l,0⟩:=rfl
theorem get4 {n:Int}(h:0<=n/\n<=4294967295):Ea (w4 n)=n:=by
 obtain⟨m,rfl⟩ :∃m:Nat,n=m:=⟨n.toNat,by omega⟩
 rw[aU,GN (by simp)]
 have:val [UInt8.ofNat (m/16777216),UInt8.ofNat (m/65536),UInt8.ofNat (m/256),UInt8.ofNat m]=m:=by
  simp only[val,List.foldl_cons,List.foldl_nil,UInt8.toNat_ofNat']
  omega
 rw[this]
theorem eZ {n:Int}(h:0<=n/\n<=65535):Ea (w2 n)=n:=by
 obtain⟨m,rfl⟩ :∃m:Nat,n=m:=⟨n.toNat,by omega⟩
 rw[XG,GN (by simp)]
 have:val [UInt8.ofNat (m/256),UInt8.ofNat m]=m:=by
  simp only[val,List.foldl_cons,List.foldl_nil,UInt8.toNat_ofNat']
  omega
 rw[this]
theorem Xp :∀{l:List Int},(∀n∈l,KQ n=true)->nums (l.flatMap w4)=l
 | [],_=>rfl
 | n::t,h=>by
  have h1:=h n (by simp)
  simp only[KQ,X27,decide_eq_true_eq] at h1
  rw[List.flatMap_cons]
  show Ea (w4 n)::nums (t.flatMap w4)=_
  rw[get4 (by omega),Xp fun m hm=>h m (X19 _ hm)]
theorem Xk :∀{l:List JAB},(∀c∈l,okC c=true)->comms (l.flatMap Ht)=l
 | [],_=>rfl
 | c::t,h=>by
  have h1:=h c (by simp)
  simp only[okC,inR,X27,decide_eq_true_eq] at h1
  rw[List.flatMap_cons]
  show (⟨Ea (w2 c.A),Ea (w2 c.B)⟩:JAB)::comms (t.flatMap Ht)=_
  rw[eZ (by omega),eZ (by omega),Xk fun m hm=>h m (X19 _ hm)]
theorem Vb :∀{l:List JAF},(∀c∈l,okL c=true)->Ce (nums (l.flatMap GV))=l
 | [],_=>rfl
 | c::t,h=>by
  have h1:=h c (by simp)
  simp only[okL,inR,X27,decide_eq_true_eq] at h1
  rw[List.flatMap_cons]
  show (⟨Ea (w4 c.A),Ea (w4 c.B),Ea (w4 c.C)⟩:JAF)::Ce (nums (t.flatMap GV))=_
  rw[get4 (by omega),get4 (by omega),get4 (by omega),Vb fun m hm=>h m (X19 _ hm)]
theorem bv {l:List JAB}(h:l.Pairwise fun a b=>JO a b=true):W4 l=l:=(I5 (l:=l) Yu Qc LG KB h fun _=>Iff.rfl).symm
theorem bU {l:List JAF}(h:l.Pairwise fun a b=>JA a b=true):XK l=l:=(I5 (l:=l) Yq QZ LH KY h fun _=>Iff.rfl).symm
theorem Wa {n:Int}(h:0<=n/\n<=2):Ko [Aa n]=some n:=by
 obtain⟨m,rfl⟩ :∃m:Nat,n=m:=⟨n.toNat,by omega⟩
 have e:Ea [Aa (m:Int)]=(m:Int):=by
  rw[BZ,GN (by simp)]
  simp only[val,List.foldl_cons,List.foldl_nil,UInt8.toNat_ofNat']
  omega
 unfold Ko
 rw[e,if_pos ⟨rfl,h.2⟩]
theorem ce {n:Int}(h:0<=n/\n<=4294967295):rd4 (w4 n)=some n:=by
 unfold rd4
 rw[if_pos (N1 n),get4 h]
theorem cP {n:Int}(h:1<=n/\n<=4294967295):V5 (w4 n)=some n:=by
 unfold V5
 rw[get4 (by omega),if_pos ⟨N1 n,by omega⟩]
theorem Zk {l:List JAB}(hv:EV l=true)(hn:l≠[]):OY (l.flatMap Ht)=some l:=by
 obtain⟨h1,h2,h3⟩:=Ez.1 hv
 have hpos:=List.length_pos_iff.2 hn
 unfold OY
 rw[LI,if_pos (by omega),Xk h1,bv h2]
theorem Y2 {l:List JAF}(hv:ET l=true)(hn:l≠[]):JS (l.flatMap GV)=some l:=by
 obtain⟨h1,h2,h3⟩:=FD.1 hv
 have hpos:=List.length_pos_iff.2 hn
 unfold JS
 rw[LK,if_pos (by omega),Vb h1,bU h2]
theorem WP {acc:List JAE}{s:JAE}(hs:s.ASNs.length<=1000)(h1:s.Set=true->s.ASNs.Pairwise fun a b=>ltI a b=true)(h2:s.Set=false->∀x,acc.getLast?=some x->x.Set=true):GZ acc s.Set s.ASNs=acc++[s]:=by
 obtain⟨b,l⟩:=s
 dsimp only at *
 unfold GZ
 cases b
 ·simp only[Bool.false_eq_true,if_false]
  cases h:acc.getLast? with
  | none=>simp only;rw[List.getLast?_eq_none_iff.1 h];rfl
  | some x=>simp only;rw[if_pos (h2 rfl x h)]
 simp only[if_true]
 have:srt l=l:=Asc.uniq (l:=l) (Tq (by omega)) ⟨h1 rfl,fun _=>Iff.rfl⟩
 rw[this]
theorem VL :∀(q acc:List JAE) (e:List UInt8),(∀s∈q,Ox s=true/\s.ASNs.length<=64)->chainB sgl q=true->(∀x y,acc.getLast?=some x->q.head?=some y->sgl x y=true)->rdL (F9 q++e) acc=rdL e (acc++q)
 | [],acc,e,_,_,_=>by rw[List.append_nil];rfl
 | s::t,acc,e,h,hc,hl=>by
  obtain⟨hok,hlen⟩:=h s (by simp)
  simp only[Ox,X27,decide_eq_true_eq,List.all_eq_true] at hok
  obtain⟨h0,hn,hch⟩:=hok
  have e0:F9 (s::t)++e=(if s.Set=true then (1:UInt8) else 2)::Aa (s.ASNs.length:Int)::(s.ASNs.flatMap w4++(F9 t++e)):=by
   unfold F9
   rw[List.flatMap_cons]
   unfold Yo
   simp
  have hk:(if s.Set=true then (1:UInt8) else 2).toNat=if s.Set=true then 1 else 2:=by cases s.Set<;>rfl
  have hcn:(Aa (s.ASNs.length:Int)).toNat=s.ASNs.length:=by
   rw[BZ,UInt8.toNat_ofNat'];omega
  have hk1:((if s.Set=true then (1:UInt8) else 2).toNat==1)=s.Set:=by cases s.Set<;>rfl
  have hbad:KI (if s.Set=true then (1:UInt8) else 2) (Aa (s.ASNs.length:Int)) (s.ASNs.flatMap w4++(F9 t++e))=false:=by
   unfold KI
   rw[hk,hcn,X11,Hg]
   refine decide_eq_false ?_
   have h12:(if s.Set=true then 1 else 2)=1\/(if s.Set=true then 1 else 2)=2:=by cases s.Set<;>simp
   generalize (if s.Set=true then 1 else 2)=z at h12 ⊢
   omega
  have htk:(s.ASNs.flatMap w4++(F9 t++e)).take (4*s.ASNs.length)=s.ASNs.flatMap w4:=List.take_left' (Hg _)
  have hdr:(s.ASNs.flatMap w4++(F9 t++e)).drop (4*s.ASNs.length)=F9 t++e:=List.drop_left' (Hg _)
  rw[e0,U3,hbad,if_neg (by decide),hcn,htk,hdr,hk1,Xp hn,WP (by omega) (fun hset=>?_) (fun hset x hx=>?_)]
  ·rw[VL t (acc++[s]) e (fun u hu=>h u (X19 _ hu)) ?_ ?_]
   ·rw[List.append_assoc];rfl
   ·cases t with
    | nil=>rfl
    | cons y t=>rw[HB,X27] at hc;exact hc.2
   intro x y hx hy
   rw[List.getLast?_concat] at hx
   obtain rfl:=X25 hx
   cases t with
   | nil=>simp at hy
   | cons z t=>
    rw[HB,X27] at hc
    simp only[List.head?_cons,X24] at hy
    subst hy
    exact hc.1
  ·have:(fun a b=>!s.Set || ltI a b)=ltI:=by rw[hset];rfl
   rw[this] at hch
   exact (Hh QD).1 hch
  have:=hl x s hx rfl
  unfold sgl at this
  rw[hset] at this
  simpa using this
theorem aL {p:List JAE}(h:F5 p=true):ON (F9 p)=some p:=by
 have h0:=h
 obtain⟨s1,s2⟩:=G5 h
 unfold F5 at h
 simp only[X27,List.all_eq_true,decide_eq_true_eq] at h
 obtain⟨⟨h1,h2⟩,h3⟩:=h
 have:=VL p [] [] (fun s hs=>⟨h1 s hs,by have:=Xy hs;omega⟩) h2 (fun x y hx=>by simp at hx)
 rw[List.append_nil,List.nil_append] at this
 unfold ON
 rw[this,X0,Option.bind_some,N2 (by omega) (by omega),h0,if_pos rfl]
theorem bV {h l:UInt64}(hh:h.toNat=0)(hl:l.toNat<72057594037927936):(AW ((BitVec.ofInt 64 ((AW ((h.toNat:Int)*(2^(min (Int.toNat 8) 64)))).toNat:Int) ||| BitVec.ofInt 64 ((AW (Int.fdiv (l.toNat:Int) (2^(min (Int.toNat 56) 64)))).toNat:Int)).toNat:Int))=0:=by
 have e1:Int.fdiv (l.toNat:Int) (2^(min (Int.toNat 56) 64))=((l.toNat/2^(min 56 64):Nat):Int):=fd l.toNat 56
 have e2:l.toNat/2^(min 56 64)=0:=Nat.div_eq_of_lt hl
 rw[e1,e2,hh]
 have e3:(((0:Nat):Int)*(2^(min (Int.toNat 8) 64)))=((0:Nat):Int):=by simp
 rw[e3,BV]
 rfl
def UF (v4:Addr)(x6:UInt8):Addr:=⟨v4.V6,(AW ((BitVec.ofInt 64 ((AW ((v4.Hi.toNat:Int)*(2^(min (Int.toNat 8) 64)))).toNat:Int) ||| BitVec.ofInt 64 ((AW (Int.fdiv (v4.Lo.toNat:Int) (2^(min (Int.toNat 56) 64)))).toNat:Int)).toNat:Int)),(AW ((BitVec.ofInt 64 ((AW ((v4.Lo.toNat:Int)*(2^(min (Int.toNat 8) 64)))).toNat:Int) ||| BitVec.ofInt 64 ((AW (x6.toNat:Int)).toNat:Int)).toNat:Int))⟩
theorem IG {m:Nat}(hm:m<16777216)(x:UInt8):UF ⟨false,0,UInt64.ofNat m⟩ x=⟨false,0,UInt64.ofNat (m*256+x.toNat)⟩:=by
 have e:(UInt64.ofNat m).toNat=m:=by rw[UInt64.toNat_ofNat'];omega
 unfold UF
 dsimp only
 rw[bV rfl (by omega),Ue (by omega) x.toNat_lt,e]
theorem Yi {n:Nat}(h:n<4294967296):addrOf (b4 n)=⟨false,0,UInt64.ofNat n⟩:=by
 have h1 :∀K:Addr->Option (Addr×Int),An (σ:=Addr) (fun v4=>K v4) (fun next5 x6 _ v4=>next5 (UF v4 x6)) (b4 n) 0 ⟨false,0,UInt64.ofNat 0⟩=K ⟨false,0,UInt64.ofNat n⟩:=by
  intro K
  rw[Xn]
  unfold b4
  rw[List.foldl_cons,IG (by omega),List.foldl_cons,IG (by rw[UInt8.toNat_ofNat'];omega),List.foldl_cons,IG (by rw[UInt8.toNat_ofNat',UInt8.toNat_ofNat'];omega),List.foldl_cons,IG (by rw[UInt8.toNat_ofNat',UInt8.toNat_ofNat',UInt8.toNat_ofNat'];omega),List.foldl_nil]
  congr 3
  simp only[UInt8.toNat_ofNat']
  omega
 have main:A5 (b4 n)=some (⟨false,0,UInt64.ofNat n⟩,0):=h1 fun v8=>some (v8,0)
 unfold addrOf
 rw[main];rfl
theorem ZU {a:Addr}(h:a.ok=true)(h6:a.V6=false):RA (b4 a.Lo.toNat)=some a:=by
 obtain⟨h1,h2⟩:=Addr.four h h6
 unfold RA
 rw[if_pos (show (b4 a.Lo.toNat).length=4 from rfl),Yi h2]
 obtain⟨v,hi,lo⟩:=a
 dsimp only at h1 h6
 subst h6
 congr 2
 ·apply UInt64.toNat_inj.1;rw[h1];rfl
 exact UInt64.ofNat_toNat
def dc (a:JAD):JAD:={ a with Next:=if a.Next.V6=true then ⟨false,0,0⟩ else a.Next }
def Jv (s a:JAD)(k:Int):JAD:=
 if k=1 then { s with Origin:=a.Origin } else
 if k=2 then { s with Path:=a.Path } else
 if k=3 then { s with Next:=a.Next } else
 if k=4 then { s with MED:=a.MED } else
 if k=5 then { s with Pref:=a.Pref } else
 if k=8 then { s with Communities:=a.Communities } else
 if k=32 then { s with JAF:=a.JAF } else
 if k=35 then { s with OTC:=a.OTC } else s
theorem Vt {t:Int}{d:List UInt8}(h:fl t≠0):FG ⟨fl t,t,d⟩=true:=by
 unfold FG
 dsimp only
 rcases Ep t with ⟨_,e⟩|⟨_,e⟩|⟨_,e⟩|⟨_,e⟩|⟨_,e⟩|⟨_,e⟩|⟨_,e⟩|⟨_,e⟩|e
 iterate 8 (rw[e];decide)
 exact absurd e.2.2.2.2.2.2.2.2 h
theorem NI {a:JAD}{k:Int}{b:List UInt8}(h:G a k=some b):fl k≠0:=by
 intro e
 rw[MM e] at h;cases h
theorem eK {s a:JAD}(v:VA a){k:Int}{b:List UInt8}(h:G a k=some b):Iw s k b=some (Jv s a k):=by
 unfold Iw Jv
 unfold G at h
 split at h
 ·rename_i hk
  subst hk
  split at h
  ·obtain rfl:=X25 h
   have:=v.o
   rw[if_pos rfl,if_pos rfl,Wa (by omega)];rfl
  cases h
 rename_i h1
 rw[if_neg h1,if_neg h1]
 split at h
 ·rename_i hk
  subst hk
  split at h
  ·obtain rfl:=X25 h
   rw[if_pos rfl,if_pos rfl,aL v.p];rfl
  cases h
 rename_i h2
 rw[if_neg h2,if_neg h2]
 split at h
 ·rename_i hk
  subst hk
  split at h
  ·rename_i hn
   obtain rfl:=X25 h
   have h6:a.Next.V6=false:=by
    unfold Fj at hn
    cases h6:a.Next.V6
    ·rfl
    rw[h6] at hn;simp at hn
   rw[if_pos rfl,if_pos rfl,ZU v.n h6];rfl
  cases h
 rename_i h3
 rw[if_neg h3,if_neg h3]
 split at h
 ·rename_i hk
  subst hk
  split at h
  ·obtain rfl:=X25 h
   have:=v.m
   rw[if_pos rfl,if_pos rfl,ce (by omega)];rfl
  cases h
 rename_i h4
 rw[if_neg h4,if_neg h4]
 split at h
 ·rename_i hk
  subst hk
  split at h
  ·obtain rfl:=X25 h
   have:=v.r
   rw[if_pos rfl,if_pos rfl,ce (by omega)];rfl
  cases h
 rename_i h5
 rw[if_neg h5,if_neg h5]
 split at h
 ·rename_i hk
  subst hk
  split at h
  ·obtain rfl:=X25 h
   rw[if_pos rfl,if_pos rfl,Zk v.c ‹_›];rfl
  cases h
 rename_i h8
 rw[if_neg h8,if_neg h8]
 split at h
 ·rename_i hk
  subst hk
  split at h
  ·obtain rfl:=X25 h
   rw[if_pos rfl,if_pos rfl,Y2 v.l ‹_›];rfl
  cases h
 rename_i h32
 rw[if_neg h32,if_neg h32]
 split at h
 ·rename_i hk
  subst hk
  split at h
  ·obtain rfl:=X25 h
   have:=v.t
   rw[if_pos rfl,if_pos rfl,cP (by omega)];rfl
  cases h
 cases h
theorem cC {s a:JAD}(v:VA a){x:JAA}(h:x∈wrS a):stepS s x=some (Jv s a x.Type_):=by
 unfold stepS
 rcases (Ja v.O).1 h with ⟨k,h⟩|h
 ·obtain⟨b,hb,rfl⟩:=Fh.1 h
  dsimp only
  rw[if_neg (NI hb),if_pos (Vt (NI hb)),eK v hb]
 have hf:=TZ (Dx v.O h).1
 rw[if_pos hf]
 rcases Ep x.Type_ with ⟨_,e⟩|⟨_,e⟩|⟨_,e⟩|⟨_,e⟩|⟨_,e⟩|⟨_,e⟩|⟨_,e⟩|⟨_,e⟩|⟨e1,e2,e3,e4,e5,e6,e7,e8,_⟩
 iterate 8 (rw[e] at hf;exact absurd hf (by decide))
 unfold Jv
 rw[if_neg e1,if_neg e2,if_neg e3,if_neg e4,if_neg e5,if_neg e6,if_neg e7,if_neg e8]
theorem Xd {a:JAD}(v:VA a) :∀(l:List JAA) (s:JAD),(∀x∈l,x∈wrS a)->Ji s l=some (l.foldl (fun s x=>Jv s a x.Type_) s)
 | [],_,_=>rfl
 | x::t,s,h=>by
  unfold Ji
  rw[cC v (h x (by simp)),Option.bind_some,Xd v t _ fun y hy=>h y (X19 _ hy)]
  rfl
theorem Ya (s a:JAD)(k:Int):(Jv s a k).Origin=(if k=1 then a.Origin else s.Origin)/\(Jv s a k).Path=(if k=2 then a.Path else s.Path)/\(Jv s a k).Next=(if k=3 then a.Next else s.Next)/\(Jv s a k).MED=(if k=4 then a.MED else s.MED)/\
  (Jv s a k).Pref=(if k=5 then a.Pref else s.Pref)/\(Jv s a k).Communities=(if k=8 then a.Communities else s.Communities)/\(Jv s a k).JAF=(if k=32 then a.JAF else s.JAF)/\(Jv s a k).OTC=(if k=35 then a.OTC else s.OTC)/\(Jv s a k).Other=s.Other:=by
 unfold Jv
 rcases Ep k with ⟨e,_⟩|⟨e,_⟩|⟨e,_⟩|⟨e,_⟩|⟨e,_⟩|⟨e,_⟩|⟨e,_⟩|⟨e,_⟩|⟨e1,e2,e3,e4,e5,e6,e7,e8,_⟩
 iterate 8 (subst e;exact⟨rfl,rfl,rfl,rfl,rfl,rfl,rfl,rfl,rfl⟩)
 simp only[e1,e2,e3,e4,e5,e6,e7,e8,if_false,and_self]
theorem PN (a:JAD) :∀(l:List JAA) (s:JAD),let r:=l.foldl (fun s x=>Jv s a x.Type_) s
  r.Origin=(if D5 l 1=true then a.Origin else s.Origin)/\r.Path=(if D5 l 2=true then a.Path else s.Path)/\r.Next=(if D5 l 3=true then a.Next else s.Next)/\r.MED=(if D5 l 4=true then a.MED else s.MED)/\
  r.Pref=(if D5 l 5=true then a.Pref else s.Pref)/\r.Communities=(if D5 l 8=true then a.Communities else s.Communities)/\r.JAF=(if D5 l 32=true then a.JAF else s.JAF)/\r.OTC=(if D5 l 35=true then a.OTC else s.OTC)/\r.Other=s.Other
 | [],s=>⟨rfl,rfl,rfl,rfl,rfl,rfl,rfl,rfl,rfl⟩
 | x::t,s=>by
  have ih:=PN a t (Jv s a x.Type_)
  have h:=Ya s a x.Type_
  have hh :∀(k:Int) {β:Type} (p q:β),(if D5 (x::t) k=true then p else q)=if D5 t k=true then p else if x.Type_=k then p else q:=by
   intro k β p q
   have:D5 (x::t) k=(k==x.Type_ || D5 t k):=rfl
   rw[this]
   by_cases e:x.Type_=k
   ·have e2:(k==x.Type_)=true:=by simp[e]
    rw[e2,if_pos e];simp
   have e2:(k==x.Type_)=false:=by simp[Ne.symm e]
   rw[e2,if_neg e];simp
  simp only[List.foldl_cons,hh]
  dsimp only at ih
  rw[h.1,h.2.1,h.2.2.1,h.2.2.2.1,h.2.2.2.2.1,h.2.2.2.2.2.1,h.2.2.2.2.2.2.1,h.2.2.2.2.2.2.2.1,h.2.2.2.2.2.2.2.2] at ih
  exact ih
theorem bR {a:JAD}(v:VA a){k:Int}(hk:fl k≠0):D5 (wrS a) k=(G a k).isSome:=by
 rw[X28,J3]
 constructor
 ·rintro⟨y,hy,e⟩
  rcases (Ja v.O).1 hy with ⟨j,h⟩|h
  ·obtain⟨b,hb,rfl⟩:=Fh.1 h
   dsimp only at e
   rw[<- e,hb];rfl
  have:=TZ (Dx v.O h).1
  rw[e] at this
  exact absurd this hk
 intro h
 obtain⟨b,hb⟩:=Option.isSome_iff_exists.1 h
 exact⟨_,(Ja v.O).2 (.inl ⟨k,Fh.2 ⟨b,hb,rfl⟩⟩),rfl⟩
theorem dJ {a:JAD}(v:VA a){x:JAA}(h:x∈wrS a):LR x=false:=by
 unfold LR
 rcases (Ja v.O).1 h with ⟨k,h⟩|h
 ·obtain⟨b,hb,rfl⟩:=Fh.1 h
  have:unk k=false:=by
   unfold unk
   rw[decide_eq_false (NI hb)];rfl
  rw[this];rfl
 have e:=(Dx v.O h).2.2.2.1
 have:(bt x.Flags 128==0)=false:=by rw[e];decide
 rw[this,Bool.and_false]
theorem Z5 {a:JAD}(v:VA a){l:List JAA}(hd:H7 l)(hm :∀x,x∈l↔x∈wrS a):Fv l=a.Other:=by
 refine Pz Fe (Nb hd) ((I9 v.O).imp fun {x y} h=>by rw[Uy];exact h) fun y=>?_
 rw[S9]
 constructor
 ·rintro⟨x,hx,hk,rfl⟩
  rcases (Ja v.O).1 ((hm x).1 hx) with ⟨k,h⟩|h
  ·obtain⟨b,hb,rfl⟩:=Fh.1 h
   have:unk k=false:=by
    unfold unk
    rw[decide_eq_false (NI hb)];rfl
   unfold Im at hk
   dsimp only at hk
   rw[this] at hk;simp at hk
  have e:conv x=x:=by
   have:=(Dx v.O h).2.2.2.1
   obtain⟨f,t,d⟩:=x
   dsimp only at this
   subst this
   rfl
  rw[e];exact h
 intro h
 obtain⟨h1,h2,h3,h4,h5⟩:=Dx v.O h
 refine⟨y,(hm y).2 ((Ja v.O).2 (.inr h)),?_,?_⟩
 ·unfold Im
  have e:(bt y.Flags 64 != 0)=true:=by rw[h4];decide
  rw[h1,e]
  simp only[Bool.true_and,X27,decide_eq_true_eq]
  exact⟨⟨h2,h3⟩,h5⟩
 obtain⟨f,t,d⟩:=y
 dsimp only at h4
 subst h4
 rfl
theorem bc {a:JAD}(v:VA a){l:List JAA}(hp:l.Perm (wrS a)):rdS l=(dc a,0):=by
 have hd:H7 l:=(hp.pairwise_iff fun h e=>h e.symm).2 (Tf v.O)
 have hm :∀x,x∈l↔x∈wrS a:=fun x=>hp.mem_iff
 have hbad:l.any LR=false:=by
  rw[List.any_eq_false]
  intro x hx
  rw[dJ v ((hm x).1 hx)];decide
 have hT :∀k,D5 l k=D5 (wrS a) k:=by
  intro k
  rw[X28,J3,J3]
  exact⟨fun ⟨y,h1,h2⟩=>⟨y,(hm y).1 h1,h2⟩,fun ⟨y,h1,h2⟩=>⟨y,(hm y).2 h1,h2⟩⟩
 unfold rdS
 rw[If hd,hbad,if_neg (by decide),Xd v l eA fun x hx=>(hm x).1 hx,Z5 v hd hm]
 dsimp only
 rw[if_neg (by have:=v.e;omega)]
 congr 1
 have f:=PN a l eA
 dsimp only at f
 obtain⟨f1,f2,f3,f4,f5,f6,f7,f8,f9⟩:=f
 generalize List.foldl (fun s x=>Jv s a x.Type_) eA l=r at f1 f2 f3 f4 f5 f6 f7 f8 f9
 rw[hT,bR v (by decide)] at f1 f2 f3 f4 f5 f6 f7 f8
 have g1:r.Origin=a.Origin:=by
  rw[f1]
  have:G a 1=if a.Origin≠-1 then some [Aa a.Origin] else none:=rfl
  rw[this]
  by_cases h:a.Origin=-1
  ·simp[h,eA]
  simp[h]
 have g2:r.Path=a.Path:=by
  rw[f2]
  have:G a 2=if a.Origin≠-1\/a.Path≠[] then some (F9 a.Path) else none:=rfl
  rw[this]
  by_cases h:a.Origin≠-1\/a.Path≠[]
  ·rw[if_pos h];rfl
  rw[if_neg h]
  have:a.Path=[]:=Classical.byContradiction fun q=>h (.inr q)
  rw[this];rfl
 have g3:r.Next=if a.Next.V6=true then ⟨false,0,0⟩ else a.Next:=by
  rw[f3]
  have:G a 3=if Fj a=true then some (b4 a.Next.Lo.toNat) else none:=rfl
  rw[this]
  unfold Fj
  cases h6:a.Next.V6
  ·cases he:Addr.eqd a.Next ⟨false,0,0⟩
   ·rfl
   have:=(fX _ _).1 he
   rw[this];rfl
  rfl
 have g4:r.MED=a.MED:=by
  rw[f4]
  have:G a 4=if a.MED≠-1 then some (w4 a.MED) else none:=rfl
  rw[this]
  by_cases h:a.MED=-1
  ·simp[h,eA]
  simp[h]
 have g5:r.Pref=a.Pref:=by
  rw[f5]
  have:G a 5=if a.Pref≠-1 then some (w4 a.Pref) else none:=rfl
  rw[this]
  by_cases h:a.Pref=-1
  ·simp[h,eA]
  simp[h]
 have g6:r.Communities=a.Communities:=by
  rw[f6]
  have:G a 8=if a.Communities≠[] then some (a.Communities.flatMap Ht) else none:=rfl
  rw[this]
  by_cases h:a.Communities=[]
  ·simp[h,eA]
  simp[h]
 have g7:r.JAF=a.JAF:=by
  rw[f7]
  have:G a 32=if a.JAF≠[] then some (a.JAF.flatMap GV) else none:=rfl
  rw[this]
  by_cases h:a.JAF=[]
  ·simp[h,eA]
  simp[h]
 have g8:r.OTC=a.OTC:=by
  rw[f8]
  have:G a 35=if a.OTC≠-1 then some (w4 a.OTC) else none:=rfl
  rw[this]
  by_cases h:a.OTC=-1
  ·simp[h,eA]
  simp[h]
 obtain⟨ro,rp,rn,rm,rr,rt,rc,rl,re⟩:=r
 dsimp only at g1 g2 g3 g4 g5 g6 g7 g8
 unfold dc
 rw[g1,g2,g3,g4,g5,g6,g7,g8]
def okJ (x:JAA):Bool:=decide (0<=x.Flags)&&(decide (x.Flags<=255)&&(decide (0<=x.Type_)&&(decide (x.Type_<=255)&&decide ((x.Data.length:Int)<=65535))))
def hdB (x:JAA):List UInt8:=if decide ((x.Data.length:Int) > 255)=true then ([(Aa ((BitVec.ofInt 8 ((Aa ((BitVec.ofInt 8 ((Aa x.Flags).toNat:Int) &&& BitVec.ofInt 8 224).toNat:Int)).toNat:Int) ||| BitVec.ofInt 8 16).toNat:Int)),(Aa x.Type_),(Aa (Int.fdiv (x.Data.length:Int) (2^(min (Int.toNat 8) 64)))),(Aa (x.Data.length:Int))]:List UInt8)
 else ([(Aa ((BitVec.ofInt 8 ((Aa x.Flags).toNat:Int) &&& BitVec.ofInt 8 224).toNat:Int)),(Aa x.Type_),(Aa (x.Data.length:Int))]:List UInt8)
def Ir (x:JAA):List UInt8:=hdB x++x.Data
def A6 (l:List JAA):List UInt8:=l.flatMap Ir
def Bn (l:List JAA):List UInt8×Int:=if l.all okJ=true then (if (A6 l).length > 2048 then ([],3) else (A6 l,0)) else ([],1)
theorem QA (x:JAA):(Ir x).length<=x.Data.length+4:=by
 unfold Ir hdB
 rw[X11]
 split<;>simp<;>omega
theorem TE {N:Nat} :∀{l:List JAA},(∀x∈l,x.Data.length<=N)->(A6 l).length<=l.length*(N+4)
 | [],_=>by simp[A6]
 | x::t,h=>by
  have ih:=TE (l:=t) fun y hy=>h y (X19 _ hy)
  have h1:=QA x
  have h2:=h x (by simp)
  unfold A6 at ih ⊢
  rw[List.flatMap_cons,X11,X12,X32]
  omega
theorem Z8 {x:JAA}{v:List UInt8}{ρ:Type}{K:List UInt8->Option ρ}(hv:v.length+4<=1000000000) :
  AC (τ:=(List UInt8)) (fun k12=>
    if (decide ((x.Data.length:Int) > 255))=true then
     Option.bind (apnd (α:=UInt8) 1 v ([(Aa ((BitVec.ofInt 8 ((Aa ((BitVec.ofInt 8 ((Aa x.Flags).toNat:Int) &&& BitVec.ofInt 8 224).toNat:Int)).toNat:Int) ||| BitVec.ofInt 8 16).toNat:Int)),(Aa x.Type_),(Aa (Int.fdiv (x.Data.length:Int) (2^(min (Int.toNat 8) 64)))),(Aa (x.Data.length:Int))]:List UInt8)) fun v13=>
     k12 v13
    else
     Option.bind (apnd (α:=UInt8) 1 v ([(Aa ((BitVec.ofInt 8 ((Aa x.Flags).toNat:Int) &&& BitVec.ofInt 8 224).toNat:Int)),(Aa x.Type_),(Aa (x.Data.length:Int))]:List UInt8)) fun v14=>
     k12 v14
   ) K=K (v++hdB x):=by
 rw[AB]
 unfold hdB
 split
 ·rw[AO (by decide) (by simp;omega),AA]
 rw[AO (by decide) (by simp;omega),AA]
theorem ak {l:List JAA}(h1:l.length<=1000)(h2 :∀x∈l,x.Data.length<=100000):Hn l=some (Bn l):=by
 have hlen:=TE h2
 have hlen2:l.length*(100000+4)<=1000*100004:=X31 _ h1
 unfold Hn Bn
 rw[AB]
 refine (Z3 (g:=okJ) (r0:=some ([],1)) fun next x i _=>?_).trans ?_
 ·have e:okJ x=!(decide (x.Flags<0) || (decide (x.Flags > 255) || (decide (x.Type_<0) || (decide (x.Type_ > 255) || decide ((x.Data.length:Int) > 65535))))):=by
   unfold okJ
   rw[X28]
   simp only[X27,Bool.not_eq_true',Bool.or_eq_false_iff,decide_eq_true_eq,decide_eq_false_iff_not]
   omega
  rw[AB,e]
  cases decide (x.Flags < 0)<;>cases decide (x.Flags > 255)<;>cases decide (x.Type_ < 0)<;>cases decide (x.Type_ > 255)<;>cases decide ((x.Data.length:Int) > 65535)<;>rfl
 cases ha:l.all okJ
 ·rfl
 rw[cond_true,if_pos rfl,AB]
 refine (QE (g:=Ir) (N:=999999990) (by show [].length+(A6 l).length<=_;simp only[X13];omega) fun next x i v hx hv=>?_).trans ?_
 ·unfold Ir at hv ⊢
  rw[X11] at hv
  have hh:(hdB x).length<=4/\3<=(hdB x).length:=by unfold hdB;split<;>simp
  rw[Z8 (by omega),AO (by decide) (by rw[X11];omega),AA,List.append_assoc]
 show (if decide (((A6 l).length:Int) > 2048)=true then _ else _)=_
 by_cases hc:(A6 l).length > 2048
 ·rw[if_pos (by simp only[decide_eq_true_eq];omega),if_pos hc]
 rw[if_neg (by simp only[decide_eq_true_eq];omega),if_neg hc]
 rfl
theorem S4 {l:List JAA}(h1:l.length<=1000)(h2 :∀x∈l,x.Data.length<=100000):Do l=some (Bn l):=by
 unfold Do Bn
 rw[AB]
 refine (Z3 (g:=okJ) (r0:=some ([],1)) fun next x i _=>?_).trans ?_
 ·have e:okJ x=((decide (0<=x.Flags)&&decide (x.Flags<=255))&&((decide (0<=x.Type_)&&decide (x.Type_<=255))&&!decide ((x.Data.length:Int) > 65535))):=by
   unfold okJ
   rw[X28]
   simp only[X27,Bool.not_eq_true',decide_eq_true_eq,decide_eq_false_iff_not]
   omega
  rw[AB,e,GE,AA,GE]
  cases decide (0<=x.Flags)<;>cases decide (x.Flags<=255)<;>cases decide (0<=x.Type_)<;>cases decide (x.Type_<=255)<;>cases decide ((x.Data.length:Int) > 65535)<;>rfl
 cases ha:l.all okJ
 ·rfl
 rw[cond_true,if_pos rfl,AB]
 have key :∀(K:List UInt8->Option (List UInt8×Int)) (body:(List UInt8->Option (List UInt8×Int))->JAA->Nat->List UInt8->Option (List UInt8×Int)),(∀next x i v,v.length<=2048->x.Data.length<=100000->body next x i v=if (v++Ir x).length > 2048 then some ([],3) else next (v++Ir x))->
   ∀(t:List JAA) (i:Nat) (v:List UInt8),(∀x∈t,x.Data.length<=100000)->v.length<=2048->An K body t i v=if (v++A6 t).length > 2048 then some ([],3) else K (v++A6 t):=by
  intro K body hb t
  induction t with
  | nil=>
   intro i v _ hv
   have e:v++A6 []=v:=by simp[A6]
   rw[e,if_neg (by omega)]
   rfl
  | cons x t ih=>
   intro i v hx hv
   show body (fun s=>An K body t (i+1) s) x i v=_
   have e:v++A6 (x::t)=(v++Ir x)++A6 t:=by
    unfold A6
    rw[List.flatMap_cons,List.append_assoc]
   rw[hb _ x i v hv (hx x (by simp)),e]
   by_cases hc:(v++Ir x).length > 2048
   ·rw[if_pos hc,if_pos (by rw[X11];omega)]
   rw[if_neg hc,ih (i+1) _ (fun y hy=>hx y (X19 _ hy)) (by omega)]
 refine (key _ _ (fun next x i v hv hd=>?_) l 0 [] h2 (by simp)).trans ?_
 ·have hh:(hdB x).length<=4:=by unfold hdB;split<;>simp
  unfold Ir
  rw[Z8 (by omega),AO (by decide) (by rw[X11];omega),AA,List.append_assoc]
  by_cases hc:(v++(hdB x++x.Data)).length > 2048
  ·rw[if_pos (by simp only[decide_eq_true_eq];omega),if_pos hc]
  rw[if_neg (by simp only[decide_eq_true_eq];omega),if_neg hc]
 rw[List.nil_append]
 split<;>rfl
theorem OP {l:List JAA}:(Bn l).1.length<=2048:=by
 unfold Bn
 split
 ·split
  ·simp
  dsimp only;omega
 simp
theorem Y1 {d:List UInt8}(h:d.length=4):(addrOf d).ok=true:=by
 match d,h with
 | [a,b,c,e],_=>
  have h1 :∀K:Addr->Option (Addr×Int),An (σ:=Addr) (fun v4=>K v4) (fun next5 x6 _ v4=>next5 (UF v4 x6)) [a,b,c,e] 0 ⟨false,0,UInt64.ofNat 0⟩=K ⟨false,0,UInt64.ofNat (val [a,b,c,e])⟩:=by
   intro K
   have ha:=a.toNat_lt
   have hb:=b.toNat_lt
   have hc:=c.toNat_lt
   rw[Xn]
   rw[List.foldl_cons,IG (by omega),List.foldl_cons,IG (by omega),List.foldl_cons,IG (by omega),List.foldl_cons,IG (by omega),List.foldl_nil]
   rfl
  have main:A5 [a,b,c,e]=some (⟨false,0,UInt64.ofNat (val [a,b,c,e])⟩,0):=h1 fun v8=>some (v8,0)
  have hv:=Lr [a,b,c,e]
  simp only[X12,X13] at hv
  unfold addrOf
  rw[main]
  show Addr.ok ⟨false,0,UInt64.ofNat (val [a,b,c,e])⟩=true
  have e2:(UInt64.ofNat (val [a,b,c,e])).toNat=val [a,b,c,e]:=by rw[UInt64.toNat_ofNat'];omega
  have e3:decide (((UInt64.ofNat (val [a,b,c,e])).toNat:Int)<4294967296)=true:=decide_eq_true (by rw[e2];omega)
  unfold Addr.ok
  dsimp only
  rw[e3]
  rfl
structure VB (a:JAD):Prop where
 o:-1<=a.Origin/\a.Origin<=2
 p:F5 a.Path=true
 n:a.Next.ok=true
 m:-1<=a.MED/\a.MED<=4294967295
 r:-1<=a.Pref/\a.Pref<=4294967295
 t:a.OTC=-1\/(1<=a.OTC/\a.OTC<=4294967295)
 c:EV a.Communities=true
 l:ET a.JAF=true
theorem VB.empty:VB eA:=⟨by decide,rfl,by decide,by decide,by decide,.inl rfl,rfl,rfl⟩
theorem VB.step {a a':JAD}{x:JAA}(v:VB a)(hd:x.Data.length<=1000000)(h:stepS a x=some a'):VB a':=by
 unfold stepS at h
 split at h
 ·obtain rfl:=X25 h
  exact v
 split at h
 rotate_left
 ·cases h
 unfold Iw at h
 split at h
 ·obtain⟨n,hn,rfl⟩:=Option.map_eq_some_iff.1 h
  unfold Ko at hn
  split at hn
  ·rename_i hc
   obtain rfl:=X25 hn
   have:0<=Ea x.Data:=by rw[GN (by omega)];omega
   exact⟨⟨by dsimp only;omega,hc.2⟩,v.p,v.n,v.m,v.r,v.t,v.c,v.l⟩
  cases hn
 split at h
 ·obtain⟨n,hn,rfl⟩:=Option.map_eq_some_iff.1 h
  unfold ON at hn
  cases hq:rdL x.Data [] with
  | none=>rw[hq] at hn;cases hn
  | some p=>
   rw[hq,Option.bind_some] at hn
   have hs:=Z7 hd hq
   rw[N2 (by omega) (by omega)] at hn
   split at hn
   ·obtain rfl:=X25 hn
    exact⟨v.o,‹_›,v.n,v.m,v.r,v.t,v.c,v.l⟩
   cases hn
 split at h
 ·obtain⟨n,hn,rfl⟩:=Option.map_eq_some_iff.1 h
  unfold RA at hn
  split at hn
  ·obtain rfl:=X25 hn
   exact⟨v.o,v.p,Y1 ‹_›,v.m,v.r,v.t,v.c,v.l⟩
  cases hn
 split at h
 ·obtain⟨n,hn,rfl⟩:=Option.map_eq_some_iff.1 h
  unfold rd4 at hn
  split at hn
  ·obtain rfl:=X25 hn
   have:=LA ‹_›
   exact⟨v.o,v.p,v.n,⟨by dsimp only;omega,by dsimp only;omega⟩,v.r,v.t,v.c,v.l⟩
  cases hn
 split at h
 ·obtain⟨n,hn,rfl⟩:=Option.map_eq_some_iff.1 h
  unfold rd4 at hn
  split at hn
  ·obtain rfl:=X25 hn
   have:=LA ‹_›
   exact⟨v.o,v.p,v.n,v.m,⟨by dsimp only;omega,by dsimp only;omega⟩,v.t,v.c,v.l⟩
  cases hn
 split at h
 ·obtain⟨n,hn,rfl⟩:=Option.map_eq_some_iff.1 h
  unfold OY at hn
  split at hn
  ·rename_i hc
   obtain rfl:=X25 hn
   exact⟨v.o,v.p,v.n,v.m,v.r,v.t,Qs (QU _) (by rw[Oh];omega),v.l⟩
  cases hn
 split at h
 ·obtain⟨n,hn,rfl⟩:=Option.map_eq_some_iff.1 h
  unfold JS at hn
  split at hn
  ·rename_i hc
   obtain rfl:=X25 hn
   exact⟨v.o,v.p,v.n,v.m,v.r,v.t,v.c,QN (Ny _ (P5 _)) (by rw[L8,HF];omega)⟩
  cases hn
 split at h
 ·obtain⟨n,hn,rfl⟩:=Option.map_eq_some_iff.1 h
  unfold V5 at hn
  split at hn
  ·rename_i hc
   obtain rfl:=X25 hn
   have:=LA hc.1
   have:=hc.2
   exact⟨v.o,v.p,v.n,v.m,v.r,.inr ⟨by dsimp only;omega,by dsimp only;omega⟩,v.c,v.l⟩
  cases hn
 obtain rfl:=X25 h
 exact v
def okB (x:JAA):Prop:=(x.Flags=64\/x.Flags=128\/x.Flags=192\/x.Flags=224)/\0<=x.Type_/\x.Type_<=255/\x.Data.length<=255
theorem cT {x:JAA}(h:okB x)(e:List UInt8) :∃f t,Ir x++e=f::t/\stp f t=some (x,e):=by
 obtain⟨hf,h1,h2,h3⟩:=h
 have hh:hdB x=([(Aa ((BitVec.ofInt 8 ((Aa x.Flags).toNat:Int) &&& BitVec.ofInt 8 224).toNat:Int)),(Aa x.Type_),(Aa (x.Data.length:Int))]:List UInt8):=by
  unfold hdB
  rw[if_neg (by simp only[decide_eq_true_eq];omega)]
 obtain⟨f,hfe⟩ :∃f,f=Aa ((BitVec.ofInt 8 ((Aa x.Flags).toNat:Int) &&& BitVec.ofInt 8 224).toNat:Int):=⟨_,rfl⟩
 have h4:hd4 f=false/\flagsOf f=x.Flags:=by
  rw[hfe]
  rcases hf with e | e | e | e<;>rw[e]<;>decide
 have hN:hdN f=3:=by unfold hdN;rw[h4.1];rfl
 refine⟨f,Aa x.Type_::Aa (x.Data.length:Int)::(x.Data++e),?_,?_⟩
 ·unfold Ir
  rw[hh,hfe]
  simp
 have hs:sizeOf (f::Aa x.Type_::Aa (x.Data.length:Int)::(x.Data++e)) 3=x.Data.length:=by
  have:sizeOf (f::Aa x.Type_::Aa (x.Data.length:Int)::(x.Data++e)) 3=(Aa (x.Data.length:Int)).toNat:=by simp[sizeOf,val]
  rw[this,BZ,UInt8.toNat_ofNat']
  omega
 have ht:((Aa x.Type_).toNat:Int)=x.Type_:=by
  obtain⟨n,hn⟩ :∃n:Nat,x.Type_=n:=⟨x.Type_.toNat,by omega⟩
  rw[hn,BZ,UInt8.toNat_ofNat']
  omega
 unfold stp
 rw[hN,hs,if_neg (by simp only[X12,X11];omega)]
 have e1:(f::Aa x.Type_::Aa (x.Data.length:Int)::(x.Data++e)).drop 3=x.Data++e:=rfl
 have e2:(f::Aa x.Type_::Aa (x.Data.length:Int)::(x.Data++e)).drop (3+x.Data.length)=e:=by
  rw[<- List.drop_drop,e1]
  simp
 rw[e1,e2,h4.2]
 have e3:(x.Data++e).take x.Data.length=x.Data:=by simp
 rw[e3]
 show some ((⟨x.Flags,((Aa x.Type_).toNat:Int),x.Data⟩:JAA),e)=_
 rw[ht]
theorem cg {b:Bool}{m:Nat}(h:m<2^128):(mkA b m).n=m:=by
 unfold mkA Addr.n
 simp only[UInt64.toNat_ofNat']
 omega
theorem Wu (a:Addr)(n:Nat):a.n/2^(a.w-n)*2^(a.w-n)<=a.n:=Nat.div_mul_le_self _ _
theorem UY {a:Addr}(h:a.ok=true):a.n<2^128:=by
 have:=Addr.n_lt h
 have hw:a.w<=128:=by unfold Addr.w;split<;>omega
 exact Nat.lt_of_lt_of_le this (Nat.pow_le_pow_right (by omega) hw)
theorem bP (m:Nat):(mkA true m).ok=true:=by
 unfold mkA Addr.ok
 simp only[cond_true]
theorem YK {x y:Bool}(hx:x=true)(hy:y=true):cond false true (cond x y false)=true:=by rw[hx,hy];rfl
theorem bo {m:Nat}(h:m<4294967296):(mkA false m).ok=true:=by
 have e1:m/2^64=0:=Nat.div_eq_of_lt (by omega)
 have e2:(UInt64.ofNat m).toNat=m:=by simp only[UInt64.toNat_ofNat'];omega
 unfold mkA
 rw[e1]
 exact YK (x:=(((UInt64.ofNat 0).toNat:Int)==0)) (y:=decide (((UInt64.ofNat m).toNat:Int)<4294967296)) (by simp) (decide_eq_true (by rw[e2];omega))
theorem dM {a:Addr}(h:a.ok=true)(n:Nat):(a.cut n).ok=true:=by
 have hc:=Wu a n
 unfold Addr.cut
 cases h6:a.V6
 ·obtain⟨h1,h2⟩:=Addr.ok4 h h6
  have hn:a.n=a.Lo.toNat:=by unfold Addr.n;rw[h1,Nat.zero_mul,Nat.zero_add]
  exact bo (by omega)
 exact bP _
theorem bZ {a:Addr}(h:a.ok=true)(n:Nat):(a.cut n).cut n=a.cut n:=by
 have hs:=UY h
 have hc:=Wu a n
 have e1:(a.cut n).n=a.n/2^(a.w-n)*2^(a.w-n):=by unfold Addr.cut;exact cg (by omega)
 have e2:(a.cut n).w=a.w:=by unfold Addr.w;rw[W5]
 have e3:(a.cut n).V6=a.V6:=W5 a n
 show mkA (a.cut n).V6 ((a.cut n).n/2^((a.cut n).w-n)*2^((a.cut n).w-n))=mkA a.V6 (a.n/2^(a.w-n)*2^(a.w-n))
 rw[e1,e2,e3,Nat.mul_div_cancel _ (Nat.two_pow_pos _)]
theorem Zo {a:Addr}(h:a.ok=true){n:Int}(h0:0<=n)(h1:n<=a.w):Du ⟨a.cut n.toNat,n⟩:=by
 have e2:(a.cut n.toNat).w=a.w:=by unfold Addr.w;rw[W5]
 exact⟨dM h _,h0,by simp only;rw[e2];exact h1,bZ h _⟩
def byB (a:Addr):List UInt8:=(Bl a).getD []
theorem GL {a:Addr}(h:a.ok=true):Bl a=some (byB a)/\(byB a).length=a.L:=by
 obtain⟨r,h1,h2,_⟩:=Ho h
 unfold byB
 rw[h1]
 exact⟨rfl,h2⟩
def Ot (p:JAC):List UInt8:=Aa p.Len::(byB p.Addr).take ((p.Len.toNat+7)/8)
def AU (six:Bool)(l:List JAC):List UInt8:=l.flatMap fun p=>if (p.Addr.V6==six)=true then Ot p else []
theorem w_L (a:Addr):a.w=8*a.L/\a.L<=16:=by unfold Addr.w Addr.L;split<;>exact⟨rfl,by omega⟩
theorem OE {p:JAC}(h:Du p):(Ot p).length<=17:=by
 obtain⟨h1,h2,h3,_⟩:=h
 obtain⟨_,e2⟩:=GL h1
 have:=(w_L p.Addr).2
 unfold Ot
 simp only[X12,X18]
 omega
theorem HH (six:Bool)(p:JAC)(t:List JAC):AU six (p::t)=(if (p.Addr.V6==six)=true then Ot p else [])++AU six t:=List.flatMap_cons
theorem BD {six:Bool} :∀{l:List JAC},(∀p∈l,Du p)->(AU six l).length<=17*l.length
 | [],_=>by simp[AU]
 | p::t,h=>by
  have h1:=OE (h p (by simp))
  have h2:=BD (six:=six) (l:=t) fun q hq=>h q (X19 _ hq)
  rw[HH,X11,X12]
  split
  ·omega
  simp only[X13];omega
theorem LF {l:List JAC}(hl:l.length<=100000)(hg :∀p∈l,Du p)(six:Bool):EN l six=some (AU six l):=by
 unfold EN
 rw[AB]
 refine (US (fun (t:List JAC) _ (s:List UInt8)=>s.length+17*t.length<=10000000/\∀p∈t,Du p) (fun t _ s=>some (s++AU six t)) ?_ ?_ l 0 [] ⟨by simp only[X13];omega,hg⟩).trans ?_
 ·intro i s _
  show some s=some (s++[])
  rw[List.append_nil]
 ·rintro next p t i s ⟨h1,h2⟩ hn
  simp only[X12] at h1
  have hp:=h2 p (by simp)
  have hcl:=OE hp
  have ht :∀q∈t,Du q:=fun q hq=>h2 q (X19 _ hq)
  obtain⟨k1,k2,k3,_⟩:=hp
  obtain⟨e1,e2⟩:=GL k1
  obtain⟨w1,w2⟩:=w_L p.Addr
  rw[AB,HH]
  by_cases h6:(p.Addr.V6==six)=true
  ·obtain⟨k,hk⟩ :∃k:Nat,p.Len=k:=⟨p.Len.toNat,by omega⟩
   have e3:AI (Int.tdiv (AI (p.Len+7)) 8)=(((p.Len.toNat+7)/8:Nat):Int):=by
    rw[hk,Int.toNat_natCast,AP (x:=(k:Int)+7) (by omega),Int.tdiv_eq_ediv_of_nonneg (by omega),AP (by omega)]
    omega
   have e4:(p.Len.toNat+7)/8<=p.Addr.L:=by omega
   have e5:chk (0<=(0:Int)/\(0:Int)<=(((p.Len.toNat+7)/8:Nat):Int)/\(((p.Len.toNat+7)/8:Nat):Int)<=((byB p.Addr).length:Int))=some ():=if_pos (by rw[e2];omega)
   have e6:List.take (Int.toNat (((p.Len.toNat+7)/8:Nat):Int)-Int.toNat 0) (List.drop (Int.toNat 0) (byB p.Addr))=(byB p.Addr).take ((p.Len.toNat+7)/8):=by
    rw[Int.toNat_natCast];rfl
   rw[if_pos h6,if_pos h6,AO (by decide) (by simp only[X22];omega),AA,e1,AA,e3,e5,AA,e6,
    AO (by decide) (by simp only[X11,X22,X18];omega),AA]
   dsimp only
   rw[hn _ ⟨by
    simp only[X11,X22,X18]
    omega,ht⟩]
   unfold Ot
   simp only[List.append_assoc,List.singleton_append,List.cons_append,List.nil_append]
  rw[if_neg h6,if_neg h6]
  dsimp only
  rw[hn _ ⟨by omega,ht⟩,List.nil_append]
 rw[List.nil_append]
theorem Xq {l:List JAA}(hl:l.length<=1000000)(x:JAA):F8 l x=some (FB ltT l x):=by
 unfold F8
 have hf:=cY (p:=(ltT · x)) (l:=l) (by omega) (g:=fun y k=>k (cond true (decide (y.Type_<x.Type_)) false)) (fun y _ k=>rfl) (K:=fun v7=>Option.bind (part l 0 v7) fun v8=>
  Option.bind (apnd (α:=JAA) 40 [] v8) fun _=>
  Option.bind (apnd (α:=JAA) 40 v8 ([x]:List JAA)) fun v9=>
  Option.bind (part l v7 (l.length:Int)) fun v10=>
  Option.bind (apnd (α:=JAA) 40 v9 v10) fun v11=>
  some v11)
 refine Eq.trans hf ?_
 exact Q0 (K:=some) (b:=40) (lt:=ltT) (l:=l) (x:=x) (by decide) (by omega)
def lst0 (u:JAG):List JAA:=if 0<u.Announce.length then wrS u.JAD else []
def HK (u:JAG):List JAA:=if 0<(AU true u.Announce).length then FB ltT (lst0 u) ⟨128,14,[0,2,1,16]++byB u.JAD.Next++[0]++AU true u.Announce⟩ else lst0 u
def Bc (u:JAG):List JAA:=if 0<(AU true u.Withdraw).length then FB ltT (HK u) ⟨128,15,[0,2,1]++AU true u.Withdraw⟩ else HK u
def two (n:Nat):List UInt8:=[Aa (Int.fdiv (n:Int) (2^(min (Int.toNat 8) 64))),Aa (n:Int)]
def DU (u:JAG)(a:List UInt8):List UInt8:=two (AU false u.Withdraw).length++AU false u.Withdraw++two a.length++a++AU false u.Announce
def EH (u:JAG):List UInt8×Int:=if (Bn (Bc u)).2≠0 then ([],(Bn (Bc u)).2) else (DU u (Bn (Bc u)).1,0)
structure GoodU (u:JAG):Prop where
 w:u.Withdraw.length<=1000
 n:u.Announce.length<=1000
 gw :∀p∈u.Withdraw,Du p
 ga :∀p∈u.Announce,Du p
 a:0<u.Announce.length->VA u.JAD/\(wrS u.JAD).length<=16/\∀x∈wrS u.JAD,x.Data.length<=768
theorem SQ {u:JAG}(g:GoodU u):F7 u=some (EH u):=by
 have cw6:=BD (six:=true) g.gw
 have cw4:=BD (six:=false) g.gw
 have ca6:=BD (six:=true) g.ga
 have ca4:=BD (six:=false) g.ga
 have hw:=g.w;have hn:=g.n
 have h0:(lst0 u).length<=16/\∀x∈lst0 u,x.Data.length<=768:=by
  unfold lst0
  split
  ·exact (g.a ‹_›).2
  simp
 unfold F7
 have e0 :∀(K:List JAA->Option (List UInt8×Int)),AC (τ:=(List JAA)) (fun k1=>
  if (decide ((u.Announce.length:Int) > 0)) then
   Option.bind (GB u.JAD) fun (v2,v3)=>
   if (v3 != 0) then
    some ([],v3)
   else
    k1 v2
  else
   k1 []) K=K (lst0 u):=by
  intro K
  rw[AB]
  unfold lst0
  by_cases h:0<u.Announce.length
  ·rw[if_pos (by simp only[decide_eq_true_eq];omega),if_pos h,Yw (g.a h).1,AA]
   exact if_neg (by simp)
  rw[if_neg (by simp only[decide_eq_true_eq];omega),if_neg h]
 rw[e0]
 rw[LF (by omega) g.ga,AA]
 have hL:(byB u.JAD.Next).length<=16\/u.Announce.length=0:=by
  rcases Nat.eq_zero_or_pos u.Announce.length with h | h
  ·exact .inr h
  have:=(GL (g.a h).1.n).2
  have:=(w_L u.JAD.Next).2
  exact .inl (by omega)
 have e1 :∀{ρ:Type} (K:List JAA->Option ρ),AC (τ:=(List JAA)) (fun k6=>
  if (decide (((AU true u.Announce).length:Int) > 0)) then
   Option.bind (Bl u.JAD.Next) fun v7=>
   Option.bind (apnd (α:=UInt8) 1 ([(0:UInt8),(2:UInt8),(1:UInt8),(16:UInt8)]:List UInt8) v7) fun v8=>
   Option.bind (apnd (α:=UInt8) 1 v8 ([(0:UInt8)]:List UInt8)) fun v9=>
   Option.bind (apnd (α:=UInt8) 1 v9 (AU true u.Announce)) fun v10=>
   Option.bind (F8 (lst0 u) (⟨128,14,v10⟩:JAA)) fun v11=>
   k6 v11
  else
   k6 (lst0 u)) K=K (HK u):=by
  intro ρ K
  rw[AB]
  unfold HK
  by_cases h:0<(AU true u.Announce).length
  ·have hpos:0<u.Announce.length:=by omega
   have hl:(byB u.JAD.Next).length<=16:=hL.resolve_right (by omega)
   rw[if_pos (by simp only[decide_eq_true_eq];omega),if_pos h,(GL (g.a hpos).1.n).1,AA,AO (by decide) (by simp only[X12,X13];omega),AA,
    AO (by decide) (by simp only[X11,X12,X13];omega),AA,AO (by decide) (by simp only[X11,X12,X13];omega),AA,Xq (by omega),AA]
  rw[if_neg (by simp only[decide_eq_true_eq];omega),if_neg h]
 rw[e1,LF (by omega) g.gw,AA]
 have h1:(HK u).length<=17/\∀x∈HK u,x.Data.length<=20000:=by
  unfold HK
  split
  ·refine⟨by rw[HA];omega,fun x hx=>?_⟩
   rcases D8.1 hx with hx | rfl
   ·have:=h0.2 x hx;omega
   have hl:(byB u.JAD.Next).length<=16:=hL.resolve_right (by omega)
   simp only[X11,X12,X13]
   omega
  exact⟨by omega,fun x hx=>by have:=h0.2 x hx;omega⟩
 have e2 :∀{ρ:Type} (K:List JAA->Option ρ),AC (τ:=(List JAA)) (fun k14=>
  if (decide (((AU true u.Withdraw).length:Int) > 0)) then
   Option.bind (apnd (α:=UInt8) 1 ([(0:UInt8),(2:UInt8),(1:UInt8)]:List UInt8) (AU true u.Withdraw)) fun v15=>
   Option.bind (F8 (HK u) (⟨128,15,v15⟩:JAA)) fun v16=>
   k14 v16
  else
   k14 (HK u)) K=K (Bc u):=by
  intro ρ K
  rw[AB]
  unfold Bc
  by_cases h:0<(AU true u.Withdraw).length
  ·rw[if_pos (by simp only[decide_eq_true_eq];omega),if_pos h,AO (by decide) (by simp only[X12,X13];omega),AA,Xq (by omega),AA]
  rw[if_neg (by simp only[decide_eq_true_eq];omega),if_neg h]
 rw[e2]
 have h2:(Bc u).length<=18/\∀x∈Bc u,x.Data.length<=20000:=by
  unfold Bc
  split
  ·refine⟨by rw[HA];omega,fun x hx=>?_⟩
   rcases D8.1 hx with hx | rfl
   ·exact h1.2 x hx
   simp only[X11,X12,X13]
   omega
  exact⟨by omega,h1.2⟩
 rw[ak (by omega) (fun x hx=>by have:=h2.2 x hx;omega),AA]
 have hj:=OP (l:=Bc u)
 unfold EH
 dsimp only
 by_cases he:(Bn (Bc u)).2=0
 ·have hne:¬ (Bn (Bc u)).2≠0:=fun q=>q he
  rw[if_neg (by rw[he];decide),if_neg hne,LF (by omega) g.gw,AA,AO (by decide) (by simp only[X12,X13];omega),AA,
   AO (by decide) (by simp only[X11,X12,X13];omega),AA,AO (by decide) (by simp only[X11,X12,X13];omega),AA,
   LF (by omega) g.ga,AA,AO (by decide) (by simp only[X11,X12,X13];omega),AA]
  rfl
 rw[if_pos (by simpa using he),if_pos he]
theorem XR {a:Addr}(h:a.ok=true){j:Nat}(hj:j<a.L):(byB a)[j]?=some (Ky a (a.L-1-j)):=by
 obtain⟨r,h1,h2,h3⟩:=Ho h
 unfold byB
 rw[h1]
 exact h3 j hj
theorem bG {a:Addr}(h:a.ok=true):val (byB a)=a.n:=by
 have hl:=(GL h).2
 obtain⟨w1,w2⟩:=w_L a
 apply Nat.eq_of_testBit_eq
 intro q
 rw[O3,hl]
 by_cases hq:q<8*a.L
 ·have hj:a.L-1-q/8<a.L:=by omega
  have e1:a.L-1-(a.L-1-q/8)=q/8:=by omega
  rw[if_pos hq,List.getD_eq_getElem?_getD,XR h hj,Option.getD_some,e1]
  unfold Ky
  rw[UInt8.toNat_ofNat',show (2:Nat)^8=2^8 from rfl,Nat.testBit_mod_two_pow,Nat.testBit_div_two_pow,Nat.mod_add_div]
  simp[Nat.mod_lt]
 rw[if_neg hq]
 exact (Nat.testBit_lt_two_pow (Nat.lt_of_lt_of_le (Addr.n_lt h) (Nat.pow_le_pow_right (by omega) (by omega)))).symm
theorem Zw {a:Addr}(h:a.ok=true):mkA a.V6 a.n=a:=by
 have h1:=a.Hi.toNat_lt
 have h2:=a.Lo.toNat_lt
 have e1:UInt64.ofNat (a.n/2^64)=a.Hi:=by
  apply UInt64.toNat_inj.1
  simp only[UInt64.toNat_ofNat']
  unfold Addr.n
  omega
 have e2:UInt64.ofNat a.n=a.Lo:=by
  apply UInt64.toNat_inj.1
  simp only[UInt64.toNat_ofNat']
  unfold Addr.n
  omega
 unfold mkA
 rw[e1,e2]
theorem eH {a:Addr}{six:Bool}(h:a.V6=six):a.L=pw six:=by
 unfold Addr.L pw
 rw[h]
theorem RF {a:Addr}(h:a.ok=true):addrOf (byB a)=a:=by
 have hl:=(GL h).2
 have hL:=eH (a:=a) rfl
 have h4:(byB a).length=4\/(byB a).length=16:=by
  rw[hl,hL];unfold pw;cases a.V6<;>simp
 have hn:=UY h
 rw[(SY h4).2,bG h,Nat.mod_eq_of_lt hn]
 have e:((byB a).length==16)=a.V6:=by
  rw[hl,hL];unfold pw;cases a.V6<;>rfl
 rw[e,Zw h]
theorem Zb {p:JAC}(h:Du p){k:Nat}(hk:(p.Len.toNat+7)/8<=k)(hL:k<=p.Addr.L):(byB p.Addr).take k++List.replicate (p.Addr.L-k) 0=byB p.Addr:=by
 obtain⟨g1,g2,g3,g4⟩:=h
 have hl:=(GL g1).2
 obtain⟨w1,w2⟩:=w_L p.Addr
 have hs:=UY g1
 apply List.ext_getElem?
 intro j
 by_cases hj:j<k
 ·rw[List.getElem?_append_left (by rw[X18];omega),List.getElem?_take,if_pos hj]
 rw[List.getElem?_append_right (by rw[X18];omega),X18,Nat.min_eq_left (by omega)]
 by_cases hj2:j<p.Addr.L
 ·rw[XR g1 hj2,List.getElem?_replicate,if_pos (by omega)]
  congr 1
  unfold Ky
  have hn:p.Addr.n=p.Addr.n/2^(p.Addr.w-p.Len.toNat)*2^(p.Addr.w-p.Len.toNat):=by
   have e1:(p.Addr.cut p.Len.toNat).n=p.Addr.n/2^(p.Addr.w-p.Len.toNat)*2^(p.Addr.w-p.Len.toNat):=by
    unfold Addr.cut
    exact cg (Nat.lt_of_le_of_lt (Wu _ _) hs)
   rw[g4] at e1
   exact e1
  have hle:8*(p.Addr.L-1-j)+8<=p.Addr.w-p.Len.toNat:=by omega
  obtain⟨d,hd⟩ :∃d,p.Addr.w-p.Len.toNat=8*(p.Addr.L-1-j)+(8+d):=⟨p.Addr.w-p.Len.toNat-(8*(p.Addr.L-1-j)+8),by omega⟩
  have hdv:p.Addr.n/2^(8*(p.Addr.L-1-j))=p.Addr.n/2^(p.Addr.w-p.Len.toNat)*2^d*256:=by
   generalize hq:p.Addr.n/2^(p.Addr.w-p.Len.toNat)=q at hn ⊢
   rw[hn,hd,Nat.pow_add,Nat.pow_add]
   have e:q*(2^(8*(p.Addr.L-1-j))*(2^8*2^d))=2^(8*(p.Addr.L-1-j))*(q*2^d*256):=by
    rw[show (2:Nat)^8=256 from rfl,Nat.mul_left_comm]
    congr 1
    rw[Nat.mul_comm 256,Nat.mul_assoc]
   rw[e,Nat.mul_div_cancel_left _ (Nat.two_pow_pos _)]
  rw[hdv]
  apply UInt8.toNat_inj.1
  rw[UInt8.toNat_ofNat',show (2:Nat)^8=256 from rfl,Nat.mul_mod_left]
  rfl
 rw[List.getElem?_replicate,if_neg (by omega),List.getElem?_eq_none (by omega)]
theorem XJ {six:Bool}{p:JAC}(h:Du p)(h6:p.Addr.V6=six)(r:List UInt8):Lj six (Aa p.Len) ((byB p.Addr).take ((p.Len.toNat+7)/8)++r)=some (p,r):=by
 have hz:=Zb h (Nat.le_refl _)
 have hg:=h
 obtain⟨g1,g2,g3,g4⟩:=h
 have hl:=(GL g1).2
 obtain⟨w1,w2⟩:=w_L p.Addr
 have hL:=eH h6
 obtain⟨k,hk⟩ :∃k:Nat,p.Len=k:=⟨p.Len.toNat,by omega⟩
 have ek:p.Len.toNat=k:=by rw[hk,Int.toNat_natCast]
 have en:(Aa p.Len).toNat=k:=by
  rw[hk,BZ,UInt8.toNat_ofNat']
  exact Nat.mod_eq_of_lt (by omega)
 have ep:pk (Aa p.Len)=(p.Len.toNat+7)/8:=by unfold pk;rw[en,ek]
 have hlt:((byB p.Addr).take ((p.Len.toNat+7)/8)).length=(p.Len.toNat+7)/8:=by rw[X18];omega
 unfold Lj
 rw[if_neg (by rw[en,ep,X11,hlt];omega)]
 have hf:SN six (Aa p.Len) ((byB p.Addr).take ((p.Len.toNat+7)/8)++r)=byB p.Addr:=by
  unfold SN
  rw[ep,List.take_append_of_le_length (by omega),List.take_take,Nat.min_self,<- hL]
  exact hz (by omega)
 unfold ct
 rw[hf,RF g1,en,ep,List.drop_append_of_le_length (by omega),List.drop_of_length_le (by omega),List.nil_append]
 rw[ek] at g4
 rw[g4,<- hk]
theorem Fz {six:Bool} :∀{l:List JAC} {acc:List JAC},(∀p∈l,Du p)->Hj six (AU six l) acc=some (acc++l.filter fun p=>p.Addr.V6==six)
 | [],acc,_=>by
  show some acc=some (acc++[])
  rw[List.append_nil]
 | p::t,acc,h=>by
  have hp:=h p (by simp)
  have ih:=fun acc=>Fz (six:=six) (l:=t) (acc:=acc) fun q hq=>h q (X19 _ hq)
  rw[HH,List.filter_cons]
  by_cases h6:(p.Addr.V6==six)=true
  ·rw[if_pos h6,if_pos h6]
   unfold Ot
   rw[List.cons_append,TG,XJ hp (by simpa using h6)]
   dsimp only
   rw[ih,List.append_assoc,List.singleton_append]
  rw[if_neg h6,if_neg h6,List.nil_append]
  exact ih acc
theorem NY {w r:List UInt8}(h:w.length<65536):HV (two w.length++w++r)=some (w,r):=by
 have e1:Int.fdiv (w.length:Int) (2^(min (Int.toNat 8) 64))=((w.length/256:Nat):Int):=by
  have:min (Int.toNat 8) 64=8:=rfl
  have e5:((2:Int)^8)=((2^8:Nat):Int):=by simp
  rw[this,e5,Int.fdiv_eq_ediv_of_nonneg _ (Int.natCast_nonneg _),Int.natCast_ediv]
 have hx:(Aa (Int.fdiv (w.length:Int) (2^(min (Int.toNat 8) 64)))).toNat*256+(Aa (w.length:Int)).toNat=w.length:=by
  rw[e1,BZ,BZ,UInt8.toNat_ofNat',UInt8.toNat_ofNat']
  omega
 unfold two HV
 simp only[List.cons_append,List.nil_append]
 rw[hx,if_neg (by rw[X11];omega),List.take_append_of_le_length (Nat.le_refl _),List.take_length,List.drop_append_of_le_length (Nat.le_refl _),List.drop_length,List.nil_append]
def ZK (x:JAA):Prop:=(x.Flags=64\/x.Flags=128\/x.Flags=192\/x.Flags=224)/\0<=x.Type_/\x.Type_<=255/\x.Data.length<=65535
theorem cj (n:Nat):Int.fdiv (n:Int) (2^(min (Int.toNat 8) 64))=((n/256:Nat):Int):=by
 have:min (Int.toNat 8) 64=8:=rfl
 have e5:((2:Int)^8)=((2^8:Nat):Int):=by simp
 rw[this,e5,Int.fdiv_eq_ediv_of_nonneg _ (Int.natCast_nonneg _),Int.natCast_ediv]
theorem ar {x:JAA}(h:ZK x)(hl:255<x.Data.length)(e:List UInt8) :∃f t,Ir x++e=f::t/\stp f t=some (x,e):=by
 obtain⟨hf,h1,h2,h3⟩:=h
 obtain⟨f,hfe⟩ :∃f,f=Aa ((BitVec.ofInt 8 ((Aa ((BitVec.ofInt 8 ((Aa x.Flags).toNat:Int) &&& BitVec.ofInt 8 224).toNat:Int)).toNat:Int) ||| BitVec.ofInt 8 16).toNat:Int):=⟨_,rfl⟩
 obtain⟨p,hp⟩ :∃p,p=Aa (Int.fdiv (x.Data.length:Int) (2^(min (Int.toNat 8) 64))):=⟨_,rfl⟩
 obtain⟨q,hq⟩ :∃q,q=Aa (x.Data.length:Int):=⟨_,rfl⟩
 have hh:hdB x=[f,Aa x.Type_,p,q]:=by
  unfold hdB
  rw[if_pos (by simp only[decide_eq_true_eq];omega),hfe,hp,hq]
 have h4:hd4 f=true/\flagsOf f=x.Flags:=by
  rw[hfe]
  rcases hf with e | e | e | e<;>rw[e]<;>decide
 have hN:hdN f=4:=by unfold hdN;rw[h4.1];rfl
 have hpq:p.toNat*256+q.toNat=x.Data.length:=by
  rw[hp,hq,cj,BZ,BZ,UInt8.toNat_ofNat',UInt8.toNat_ofNat']
  omega
 refine⟨f,Aa x.Type_::p::q::(x.Data++e),?_,?_⟩
 ·unfold Ir
  rw[hh]
  simp
 have hs:sizeOf (f::Aa x.Type_::p::q::(x.Data++e)) 4=x.Data.length:=by
  rw[<- hpq]
  simp[sizeOf,val]
 have ht:((Aa x.Type_).toNat:Int)=x.Type_:=by
  obtain⟨n,hn⟩ :∃n:Nat,x.Type_=n:=⟨x.Type_.toNat,by omega⟩
  rw[hn,BZ,UInt8.toNat_ofNat']
  omega
 unfold stp
 rw[hN,hs,if_neg (by simp only[X12,X11];omega)]
 have e1:(f::Aa x.Type_::p::q::(x.Data++e)).drop 4=x.Data++e:=rfl
 have e2:(f::Aa x.Type_::p::q::(x.Data++e)).drop (4+x.Data.length)=e:=by
  rw[<- List.drop_drop,e1]
  simp
 rw[e1,e2,h4.2]
 have e3:(x.Data++e).take x.Data.length=x.Data:=by simp
 rw[e3]
 show some ((⟨x.Flags,((Aa x.Type_).toNat:Int),x.Data⟩:JAA),e)=_
 rw[ht]
theorem Ls :∀(l acc:List JAA),(∀x∈l,ZK x)->PU (A6 l) acc=some (acc++l)
 | [],acc,_=>by rw[List.append_nil];rfl
 | x::t,acc,h=>by
  have hx:=h x (by simp)
  obtain⟨f,r,h1,h2⟩ :∃f r,Ir x++A6 t=f::r/\stp f r=some (x,A6 t):=by
   rcases Nat.lt_or_ge 255 x.Data.length with q | q
   ·exact ar hx q _
   exact cT ⟨hx.1,hx.2.1,hx.2.2.1,q⟩ _
  have e:A6 (x::t)=Ir x++A6 t:=by unfold A6;rw[List.flatMap_cons]
  rw[e,h1,TM,h2]
  show PU (A6 t) (acc++[x])=_
  rw[Ls t _ fun y hy=>h y (X19 _ hy),List.append_assoc]
  rfl
def sk (x:JAA):Bool:=x.Type_ != 14&&x.Type_ != 15
theorem fb {x:JAA}(h:sk x=false):x.Type_=14\/x.Type_=15:=by
 unfold sk at h
 simp only[Bool.and_eq_false_iff,bne_eq_false_iff_eq] at h
 exact h
theorem TU {x:JAA}(h:sk x=false):unk x.Type_=false/\fl x.Type_=0:=by
 rcases fb h with e | e<;>rw[e]<;>decide
theorem QH :∀(l:List JAA) (a:JAD),Ji a (l.filter sk)=Ji a l
 | [],_=>rfl
 | x::t,a=>by
  rw[List.filter_cons]
  cases hx:sk x with
  | true=>
   rw[if_pos rfl]
   unfold Ji
   cases stepS a x with
   | none=>rfl
   | some b=>exact QH t b
  | false=>
   rw[if_neg (by decide)]
   have hs:stepS a x=some a:=if_pos (TU hx).2
   show _=(stepS a x).bind fun a'=>Ji a' t
   rw[hs,Option.bind_some]
   exact QH t a
theorem UM {β:Type}{g:JAA->List β}(hg :∀x,sk x=false->g x=[]) :∀l:List JAA,(l.filter sk).flatMap g=l.flatMap g
 | []=>rfl
 | x::t=>by
  rw[List.filter_cons,List.flatMap_cons]
  cases hx:sk x with
  | true=>rw[if_pos rfl,List.flatMap_cons,UM hg t]
  | false=>rw[if_neg (by decide),hg x hx,List.nil_append,UM hg t]
theorem dH {l:List JAA}(hd:H7 l):rdS (l.filter sk)=rdS l:=by
 have hd2:H7 (l.filter sk):=hd.filter _
 have hb:(l.filter sk).any LR=l.any LR:=by
  rw[X28,List.any_eq_true,List.any_eq_true]
  constructor
  ·rintro⟨x,hx,h⟩
   exact⟨x,(List.mem_filter.1 hx).1,h⟩
  rintro⟨x,hx,h⟩
  refine⟨x,List.mem_filter.2 ⟨hx,?_⟩,h⟩
  cases hs:sk x with
  | true=>rfl
  | false=>
   unfold LR at h
   rw[(TU hs).1] at h
   cases h
 have hk:Fv (l.filter sk)=Fv l:=by
  unfold Fv
  congr 1
  funext k
  refine UM (fun x hx=>?_) l
  have:Im x=false:=by unfold Im;rw[(TU hx).1];rfl
  rw[this,Bool.and_false,if_neg (by decide)]
 unfold rdS
 rw[If hd,If hd2,hb,QH,hk]
theorem aA (l:List JAA)(x:JAA):(FB ltT l x).Perm (x::l):=by
 unfold FB
 refine List.perm_middle.trans ?_
 rw[List.takeWhile_append_dropWhile]
theorem FX {p:JAA->Bool}{l:List JAA}{x:JAA}(h:p x=false):(FB ltT l x).filter p=l.filter p:=by
 unfold FB
 rw[List.filter_append,List.filter_cons,if_neg (by rw[h];decide),<- List.filter_append,List.takeWhile_append_dropWhile]
theorem KA {p:JAA->Bool}{l:List JAA}{x:JAA}(h:p x=true)(hl:l.filter p=[]):(FB ltT l x).filter p=[x]:=by
 have h2:(l.takeWhile (ltT · x)).filter p++(l.dropWhile (ltT · x)).filter p=[]:=by
  rw[<- List.filter_append,List.takeWhile_append_dropWhile];exact hl
 obtain⟨e1,e2⟩:=List.append_eq_nil_iff.1 h2
 unfold FB
 rw[List.filter_append,List.filter_cons,if_pos h,e1,e2]
 rfl
theorem WH {l:List JAA}{x:JAA}(hd:H7 l)(hx:DC l x.Type_=[]):H7 (FB ltT l x):=by
 refine ((aA l x).pairwise_iff fun h e=>h e.symm).2 (List.pairwise_cons.2 ⟨fun y hy e=>?_,hd⟩)
 unfold DC at hx
 rw[List.filter_eq_nil_iff] at hx
 exact hx y hy (by rw[beq_iff_eq];exact e.symm)
def x14 (u:JAG):JAA:=⟨128,14,[0,2,1,16]++byB u.JAD.Next++[0]++AU true u.Announce⟩
def x15 (u:JAG):JAA:=⟨128,15,[0,2,1]++AU true u.Withdraw⟩
theorem Pv (u:JAG):HK u=if 0<(AU true u.Announce).length then FB ltT (lst0 u) (x14 u) else lst0 u:=rfl
theorem MY (u:JAG):Bc u=if 0<(AU true u.Withdraw).length then FB ltT (HK u) (x15 u) else HK u:=rfl
theorem LC {six:Bool} :∀{l:List JAC},AU six l=[]↔l.filter (fun p=>p.Addr.V6==six)=[]
 | []=>by simp[AU]
 | p::t=>by
  rw[HH,List.filter_cons]
  by_cases h6:(p.Addr.V6==six)=true
  ·rw[if_pos h6,if_pos h6]
   unfold Ot
   simp
  rw[if_neg h6,if_neg h6,List.nil_append]
  exact LC
theorem Sr {six:Bool}{l:List JAC}:0<(AU six l).length↔l.filter (fun p=>p.Addr.V6==six)≠[]:=by
 rw[List.length_pos_iff,ne_eq,LC]
theorem JK :∀(l:List JAC),(l.filter fun p=>p.Addr.V6==false).length+(l.filter fun p=>p.Addr.V6==true).length=l.length
 | []=>rfl
 | p::t=>by
  have ih:=JK t
  rw[List.filter_cons,List.filter_cons]
  cases p.Addr.V6
  ·simp only[beq_self_eq_true,if_true,X12]
   rw[if_neg (by decide)]
   omega
  simp only[beq_self_eq_true,if_true,X12]
  rw[if_neg (by decide)]
  omega
structure WrU (u:JAG):Prop where
 g:GoodU u
 w:u.Withdraw.length<=256
 n:u.Announce.length<=256
 s :∀p∈u.Announce,p.Addr.V6=u.JAD.Next.V6
 o:u.Announce≠[]->u.JAD.Origin≠-1/\u.JAD.Next≠zAd
theorem Ie {a:JAD}(v:VA a){x:JAA}(h:x∈wrS a):sk x=true/\(x.Flags=64\/x.Flags=128\/x.Flags=192\/x.Flags=224)/\0<=x.Type_/\x.Type_<=255:=by
 rcases (Ja v.O).1 h with ⟨k,h⟩|h
 ·obtain⟨b,hb,rfl⟩:=Fh.1 h
  rcases Ep k with ⟨e,f⟩|⟨e,f⟩|⟨e,f⟩|⟨e,f⟩|⟨e,f⟩|⟨e,f⟩|⟨e,f⟩|⟨e,f⟩|⟨_,_,_,_,_,_,_,_,f⟩
  iterate 8
   ·subst e
    unfold sk
    dsimp only
    rw[f]
    decide
  rw[MM f] at hb
  cases hb
 obtain⟨h1,h2,h3,h4,_⟩:=Dx v.O h
 refine⟨?_,.inr (.inr (.inr h4)),by omega,by omega⟩
 cases hs:sk x with
 | true=>rfl
 | false=>rw[(TU hs).1] at h1;cases h1
theorem Xc {l:List JAA}(h :∀x∈l,sk x=true):DC l 14=[]/\DC l 15=[]/\l.filter sk=l:=by
 refine⟨?_,?_,List.filter_eq_self.2 h⟩
 ·unfold DC
  rw[List.filter_eq_nil_iff]
  intro x hx q
  have:=h x hx
  unfold sk at this
  simp only[X27,bne_iff_ne] at this
  exact this.1 (by simpa using q)
 unfold DC
 rw[List.filter_eq_nil_iff]
 intro x hx q
 have:=h x hx
 unfold sk at this
 simp only[X27,bne_iff_ne] at this
 exact this.2 (by simpa using q)
structure LstOK (u:JAG):Prop where
 d:H7 (Bc u)
 b :∀x∈Bc u,ZK x
 e14:DC (Bc u) 14=if 0<(AU true u.Announce).length then [x14 u] else []
 e15:DC (Bc u) 15=if 0<(AU true u.Withdraw).length then [x15 u] else []
 f:(Bc u).filter sk=lst0 u
 m :∀x∈lst0 u,x∈Bc u
theorem Rb {u:JAG}(h:WrU u):LstOK u:=by
 have g:=h.g
 have cw6:=BD (six:=true) g.gw
 have ca6:=BD (six:=true) g.ga
 have hw:=h.w;have hn:=h.n
 have h0:H7 (lst0 u)/\(∀x∈lst0 u,sk x=true/\ZK x):=by
  unfold lst0
  by_cases ha:0<u.Announce.length
  ·rw[if_pos ha]
   obtain⟨v,_,hd⟩:=g.a ha
   exact⟨Tf v.O,fun x hx=>⟨(Ie v hx).1,(Ie v hx).2.1,(Ie v hx).2.2.1,(Ie v hx).2.2.2,by have:=hd x hx;omega⟩⟩
  rw[if_neg ha]
  exact⟨.nil,fun x hx=>by cases hx⟩
 obtain⟨d0,b0⟩:=h0
 obtain⟨a14,a15,af⟩:=Xc fun x hx=>(b0 x hx).1
 have hL:0<(AU true u.Announce).length->(byB u.JAD.Next).length<=16:=by
  intro hc
  have ha:0<u.Announce.length:=by omega
  have:=(GL (g.a ha).1.n).2
  have:=(w_L u.JAD.Next).2
  omega
 have h1:H7 (HK u)/\(∀x∈HK u,ZK x)/\DC (HK u) 14=(if 0<(AU true u.Announce).length then [x14 u] else [])/\DC (HK u) 15=[]/\(HK u).filter sk=lst0 u/\∀x∈lst0 u,x∈HK u:=by
  rw[Pv]
  by_cases hc:0<(AU true u.Announce).length
  ·rw[if_pos hc,if_pos hc]
   refine⟨WH d0 a14,fun x hx=>?_,KA rfl a14,?_,?_,fun x hx=>D8.2 (.inl hx)⟩
   ·rcases D8.1 hx with hx | rfl
    ·exact (b0 x hx).2
    have:=hL hc
    refine⟨.inr (.inl rfl),show (0:Int)<=14 by decide,show (14:Int)<=255 by decide,?_⟩
    unfold x14
    simp only[X11,X12,X13]
    omega
   ·exact (FX (x:=x14 u) rfl).trans a15
   exact (FX (x:=x14 u) rfl).trans af
  rw[if_neg hc,if_neg hc]
  exact⟨d0,fun x hx=>(b0 x hx).2,a14,a15,af,fun x hx=>hx⟩
 obtain⟨d1,b1,c14,c15,cf,m1⟩:=h1
 by_cases hc:0<(AU true u.Withdraw).length
 ·have e:=(MY u).trans (if_pos hc)
  refine⟨?_,fun x hx=>?_,?_,?_,?_,fun x hx=>?_⟩
  ·rw[e];exact WH d1 c15
  ·rw[e] at hx
   rcases D8.1 hx with hx | rfl
   ·exact b1 x hx
   refine⟨.inr (.inl rfl),show (0:Int)<=15 by decide,show (15:Int)<=255 by decide,?_⟩
   unfold x15
   simp only[X11,X12,X13]
   omega
  ·rw[e];exact (FX (x:=x15 u) rfl).trans c14
  ·rw[e,if_pos hc];exact KA rfl c15
  ·rw[e];exact (FX (x:=x15 u) rfl).trans cf
  rw[e];exact D8.2 (.inl (m1 x hx))
 have e:=(MY u).trans (if_neg hc)
 exact⟨by rw[e];exact d1,by rw[e];exact b1,by rw[e];exact c14,by rw[e,if_neg hc];exact c15,by rw[e];exact cf,by rw[e];exact m1⟩
theorem WG {u:JAG}(h:WrU u) :∃n,Ey (Bc u)=some (n,u.Announce.filter fun p=>p.Addr.V6==true)/\(u.Announce.filter (fun p=>p.Addr.V6==true)≠[]->n=u.JAD.Next/\u.JAD.Next.V6=true):=by
 unfold Ey
 rw[(Rb h).e14]
 by_cases hc:0<(AU true u.Announce).length
 ·have hf:=Sr.1 hc
  have ha:0<u.Announce.length:=by
   rcases Nat.eq_zero_or_pos u.Announce.length with q | q
   ·rw[List.eq_nil_of_length_eq_zero q] at hf
    exact absurd rfl hf
   exact q
  obtain⟨p,hp⟩:=List.exists_mem_of_ne_nil _ hf
  obtain⟨p1,p2⟩:=List.mem_filter.1 hp
  have h6:u.JAD.Next.V6=true:=by rw[<- h.s p p1];simpa using p2
  have v:=(h.g.a ha).1
  have hl:(byB u.JAD.Next).length=16:=by rw[(GL v.n).2,eH h6];rfl
  rw[if_pos hc]
  refine⟨u.JAD.Next,?_,fun _=>⟨rfl,h6⟩⟩
  show FW (x14 u).Data=_
  have hD:(x14 u).Data=0::2::1::16::(byB u.JAD.Next++(0::AU true u.Announce)):=by
   unfold x14
   simp only[List.cons_append,List.nil_append,List.append_assoc]
  have h20:(x14 u).Data.getD 20 0=0:=by
   rw[hD,List.getD_eq_getElem?_getD]
   show ((byB u.JAD.Next++(0::AU true u.Announce))[16]?).getD 0=0
   rw[List.getElem?_append_right (by omega),hl]
   rfl
  have h21:(x14 u).Data.drop 21=AU true u.Announce:=by
   rw[hD]
   show (byB u.JAD.Next++(0::AU true u.Announce)).drop 17=_
   rw[List.drop_append,List.drop_of_length_le (by omega),hl,List.nil_append]
   rfl
  have h4:((x14 u).Data.drop 4).take 16=byB u.JAD.Next:=by
   rw[hD]
   show (byB u.JAD.Next++(0::AU true u.Announce)).take 16=_
   rw[List.take_append_of_le_length (by omega),List.take_of_length_le (by omega)]
  unfold FW
  rw[if_pos ⟨by rw[hD];rfl,by rw[hD];simp only[X12,X11];omega,by rw[hD];rfl,h20⟩,h21,h4,RF v.n,Fz h.g.ga,List.nil_append]
  rfl
 rw[if_neg hc]
 have hf:u.Announce.filter (fun p=>p.Addr.V6==true)=[]:=by
  apply LC.1
  exact List.eq_nil_of_length_eq_zero (by omega)
 refine⟨zAd,?_,fun q=>absurd hf q⟩
 rw[hf]
theorem Q8 {u:JAG}(h:WrU u):DF (Bc u)=some (u.Withdraw.filter fun p=>p.Addr.V6==true):=by
 unfold DF
 rw[(Rb h).e15]
 by_cases hc:0<(AU true u.Withdraw).length
 ·rw[if_pos hc]
  show En (x15 u).Data=_
  unfold En
  rw[if_pos (show isP (x15 u).Data=true from rfl)]
  show Hj true (AU true u.Withdraw) []=_
  rw[Fz h.g.gw,List.nil_append]
 rw[if_neg hc]
 have hf:u.Withdraw.filter (fun p=>p.Addr.V6==true)=[]:=by
  apply LC.1
  exact List.eq_nil_of_length_eq_zero (by omega)
 rw[hf]
theorem QM {l:List JAA}(h:(Bn l).2=0):(Bn l).1=A6 l/\(A6 l).length<=2048:=by
 unfold Bn at h ⊢
 split at h
 ·rename_i hc
  rw[if_pos hc]
  split at h
  ·cases h
  rename_i hl
  rw[if_neg hl]
  exact⟨rfl,by omega⟩
 cases h
theorem Yn {u:JAG}(h:WrU u)(hj:(Bn (Bc u)).2=0)(hr:(rdS (Bc u)).2=0) :∃n,JZ (DU u (Bn (Bc u)).1)=some ⟨Bc u,n,u.Withdraw.filter (fun p=>p.Addr.V6==false),u.Withdraw.filter (fun p=>p.Addr.V6==true),u.Announce.filter (fun p=>p.Addr.V6==false),u.Announce.filter (fun p=>p.Addr.V6==true)⟩/\
  (u.Announce.filter (fun p=>p.Addr.V6==true)≠[]->n=u.JAD.Next/\u.JAD.Next.V6=true):=by
 obtain⟨n,hR,hn⟩:=WG h
 have hU:=Q8 h
 obtain⟨j1,j2⟩:=QM hj
 have cw4:=BD (six:=false) h.g.gw
 have hw:=h.w
 refine⟨n,?_,hn⟩
 have e1:HV (DU u (Bn (Bc u)).1)=some (AU false u.Withdraw,two (A6 (Bc u)).length++A6 (Bc u)++AU false u.Announce):=by
  have:=NY (w:=AU false u.Withdraw) (r:=two (A6 (Bc u)).length++A6 (Bc u)++AU false u.Announce) (by omega)
  rw[<- this,j1]
  unfold DU
  simp only[List.append_assoc]
 have e2:HV (two (A6 (Bc u)).length++A6 (Bc u)++AU false u.Announce)=some (A6 (Bc u),AU false u.Announce):=NY (by omega)
 unfold JZ
 rw[e1]
 dsimp only
 rw[e2]
 dsimp only
 rw[Ls _ _ (Rb h).b,List.nil_append,I7,hR,hU,Fz h.g.gw,Fz h.g.ga,List.nil_append,List.nil_append,JP]
 have fw:=JK u.Withdraw
 have fa:=JK u.Announce
 have hnn:=h.n
 have hex:¬ (0<(u.Announce.filter (fun p=>p.Addr.V6==false)).length/\0<(u.Announce.filter (fun p=>p.Addr.V6==true)).length):=by
  rintro⟨q1,q2⟩
  obtain⟨p1,hp1⟩:=List.exists_mem_of_ne_nil _ (List.length_pos_iff.1 q1)
  obtain⟨p2,hp2⟩:=List.exists_mem_of_ne_nil _ (List.length_pos_iff.1 q2)
  obtain⟨a1,a2⟩:=List.mem_filter.1 hp1
  obtain⟨b1,b2⟩:=List.mem_filter.1 hp2
  have s1:=h.s _ a1
  have s2:=h.s _ b1
  rw[beq_iff_eq] at a2 b2
  rw[a2] at s1
  rw[b2,<- s1] at s2
  cases s2
 have hok:okN (u.Withdraw.filter (fun p=>p.Addr.V6==false)) (u.Withdraw.filter (fun p=>p.Addr.V6==true)) (u.Announce.filter (fun p=>p.Addr.V6==false)) (u.Announce.filter (fun p=>p.Addr.V6==true))=true:=by
  unfold okN
  rw[decide_eq_true (p:=(u.Withdraw.filter (fun p=>p.Addr.V6==false)).length+(u.Withdraw.filter (fun p=>p.Addr.V6==true)).length<=256) (by omega),decide_eq_true (p:=(u.Announce.filter (fun p=>p.Addr.V6==false)).length+(u.Announce.filter (fun p=>p.Addr.V6==true)).length<=256) (by omega)]
  simp only[Bool.and_true,Bool.not_eq_true',Bool.and_eq_false_iff,decide_eq_false_iff_not]
  rcases Nat.eq_zero_or_pos (u.Announce.filter (fun p=>p.Addr.V6==false)).length with q | q
  ·exact .inl (by omega)
  exact .inr fun q2=>hex ⟨q,q2⟩
 rw[if_pos ⟨hok,by rw[hr];decide⟩]
theorem bF:rdS []=(eA,0):=rfl
theorem Zv {u:JAG}(h:WrU u):rdS (Bc u)=if 0<u.Announce.length then (dc u.JAD,0) else (eA,0):=by
 have k:=Rb h
 rw[<- dH k.d,k.f]
 unfold lst0
 by_cases ha:0<u.Announce.length
 ·rw[if_pos ha,if_pos ha,bc (h.g.a ha).1 (List.Perm.refl _)]
 rw[if_neg ha,if_neg ha,bF]
theorem filter_all {l:List JAC}{b:Bool}(h :∀p∈l,p.Addr.V6=b):(l.filter fun p=>p.Addr.V6==false)++(l.filter fun p=>p.Addr.V6==true)=l:=by
 cases b with
 | false=>
  rw[List.filter_eq_self.2 (fun p hp=>by rw[h p hp];rfl),List.filter_eq_nil_iff.2 (fun p hp=>by rw[h p hp];decide),List.append_nil]
 | true=>
  rw[List.filter_eq_nil_iff.2 (fun p hp=>by rw[h p hp];decide),List.filter_eq_self.2 (fun p hp=>by rw[h p hp];rfl),List.nil_append]
def Ha (p:JAC):Bool:=(D1 p).getD false
theorem Is (p:JAC):D1 p=some (Ha p)/\(Ha p=true↔Du p):=by
 obtain⟨b,h1,h2⟩:=Qy p
 unfold Ha
 rw[h1]
 exact⟨rfl,h2⟩
def isE (a:JAD):Bool:=(Dq a eA).getD false
theorem XI (a:JAD):Dq a eA=some (isE a):=by
 obtain⟨b,h⟩:=(inferInstance:Tt (Dq a eA)).h
 unfold isE
 rw[h];rfl
def Qf (a:JAD)(p:JAC):Bool:=(p.Addr.V6==a.Next.V6)&&((a.Origin != -1)&&(!(Addr.eqd a.Next zAd)&&Gp a))
def XC (u:JAG):Bool:=((EH u).2==0)&&decide ((EH u).1.length<=4077)
def Gl (u:JAG):Bool:=decide (u.Withdraw.length<=256)&&(decide (u.Announce.length<=256)&&((u.Withdraw++u.Announce).all Ha&&((!(decide (u.Announce=[])) || isE u.JAD)&&(u.Announce.all (Qf u.JAD)&&XC u))))
theorem Uz {u:JAG}(hs:SmT u.JAD)(hw:u.Withdraw.length<=1000)(hn:u.Announce.length<=1000)(hW :∀{a:JAD},VA a->(wrS a).length<=16):G4 u=some (Gl u):=by
 unfold G4 Gl
 rw[AB]
 by_cases h1:u.Withdraw.length<=256
 case neg=>
  rw[if_pos (by simp only[decide_eq_true_eq];omega),decide_eq_false h1]
  rfl
 rw[if_neg (by simp only[decide_eq_true_eq];omega),decide_eq_true h1]
 dsimp only
 by_cases h2:u.Announce.length<=256
 case neg=>
  rw[decide_eq_false h2,if_pos (by simp only[cond_false,decide_eq_true_eq];omega)]
  rfl
 rw[decide_eq_true h2,if_neg (by simp only[cond_false,decide_eq_true_eq];omega),AO (by decide) (by simp only[X13];omega),AA,AO (by decide) (by omega),AA,AB]
 refine (Z3 (g:=Ha) (r0:=some false) fun next p i _=>by
  rw[(Is p).1,AA]
  cases Ha p<;>rfl).trans ?_
 cases hg:(u.Withdraw++u.Announce).all Ha with
 | false=>rfl
 | true=>
  have hgood :∀p∈u.Withdraw++u.Announce,Du p:=fun p hp=>(Is p).2.1 (List.all_eq_true.1 hg p hp)
  simp only[cond_true,Bool.true_and]
  rw[AB]
  have hE:E7=some eA:=rfl
  by_cases h0:u.Announce=[]
  ·rw[if_pos ((be _).2 h0),hE,AA,XI,AA,decide_eq_true h0]
   cases he:isE u.JAD with
   | false=>rfl
   | true=>
    simp only[Bool.not_true,cond_true,Bool.false_or,Bool.true_and]
    rw[if_neg (by decide),AB,h0]
    show Option.bind (F7 u) _=_
    have g:GoodU u:=⟨by omega,by omega,fun p hp=>hgood p (List.mem_append_left _ hp),(fun p hp=>by rw[h0] at hp;cases hp),fun q=>by rw[h0] at q;cases q⟩
    rw[SQ g,AA]
    unfold XC
    rw[AB]
    have e:decide (((EH u).1.length:Int)<=4077)=decide ((EH u).1.length<=4077):=by rw[decide_eq_decide];omega
    rw[e]
    cases ((EH u).2==0)<;>cases decide ((EH u).1.length<=4077)<;>rfl
  rw[if_neg (fun q=>h0 ((be _).1 q)),decide_eq_false h0]
  simp only[Bool.not_false,Bool.true_or,Bool.true_and]
  rw[if_neg (by decide),AB]
  refine (Z3 (g:=Qf u.JAD) (r0:=some false) fun next p i _=>by
   rw[AB,Si hs,AA]
   unfold Qf
   have ez:Addr.eqd u.JAD.Next (⟨false,(0:UInt64),(0:UInt64)⟩:Addr)=Addr.eqd u.JAD.Next zAd:=rfl
   have eo:(u.JAD.Origin==(-1))=!(u.JAD.Origin != -1):=(Bool.not_not _).symm
   rw[ez,eo]
   cases (p.Addr.V6==u.JAD.Next.V6)<;>cases (u.JAD.Origin != -1)<;>cases Addr.eqd u.JAD.Next zAd<;>cases Gp u.JAD<;>rfl).trans ?_
  cases hf:u.Announce.all (Qf u.JAD) with
  | false=>rfl
  | true=>
   simp only[cond_true,Bool.true_and]
   have hv:VA u.JAD:=by
    obtain⟨p,hp⟩:=List.exists_mem_of_ne_nil _ h0
    have:=List.all_eq_true.1 hf p hp
    unfold Qf at this
    simp only[X27] at this
    exact OD.1 this.2.2.2
   have g:GoodU u:=⟨by omega,by omega,fun p hp=>hgood p (List.mem_append_left _ hp),fun p hp=>hgood p (List.mem_append_right _ hp),fun _=>⟨hv,hW hv,fun x hx=>UD hv hx⟩⟩
   rw[SQ g,AA]
   unfold XC
   rw[AB]
   have e:decide (((EH u).1.length:Int)<=4077)=decide ((EH u).1.length<=4077):=by rw[decide_eq_decide];omega
   rw[e]
   cases ((EH u).2==0)<;>cases decide ((EH u).1.length<=4077)<;>rfl
theorem ZD {u:JAG}(h:Gl u=true)(hW :∀{a:JAD},VA a->(wrS a).length<=16):WrU u/\XC u=true/\(u.Announce=[]->isE u.JAD=true):=by
 unfold Gl at h
 simp only[X27,decide_eq_true_eq] at h
 obtain⟨h1,h2,h3,h4,h5,h6⟩:=h
 have hgood :∀p∈u.Withdraw++u.Announce,Du p:=fun p hp=>(Is p).2.1 (List.all_eq_true.1 h3 p hp)
 have hfit :∀p∈u.Announce,p.Addr.V6=u.JAD.Next.V6/\u.JAD.Origin≠-1/\u.JAD.Next≠zAd/\VA u.JAD:=fun p hp=>by
  have:=List.all_eq_true.1 h5 p hp
  unfold Qf at this
  simp only[X27,beq_iff_eq,bne_iff_ne,Bool.not_eq_true'] at this
  obtain⟨a1,a2,a3,a4⟩:=this
  exact⟨a1,a2,(fun q=>by rw[q,(Addr.eqd_iff _ _).2 rfl] at a3;cases a3),OD.1 a4⟩
 refine⟨⟨⟨by omega,by omega,fun p hp=>hgood p (List.mem_append_left _ hp),fun p hp=>hgood p (List.mem_append_right _ hp),fun q=>?_⟩,h1,h2,fun p hp=>(hfit p hp).1,fun q=>?_⟩,h6,fun q=>?_⟩
 ·obtain⟨p,hp⟩:=List.exists_mem_of_ne_nil _ (List.length_pos_iff.1 q)
  have v:=(hfit p hp).2.2.2
  exact⟨v,hW v,fun x hx=>UD v hx⟩
 ·obtain⟨p,hp⟩:=List.exists_mem_of_ne_nil _ q
  exact⟨(hfit p hp).2.1,(hfit p hp).2.2.1⟩
 rw[decide_eq_true q] at h4
 simpa using h4
def encS (u:JAG):List UInt8×Int:=if Gl u=true then EH u else ([],1)
def x1 (o:UInt8):JAA:=⟨64,1,[o]⟩
theorem am {a:JAD}(v:VA a)(ho:a.Origin≠-1) :∃rest,wrS a=x1 (Aa a.Origin)::rest:=by
 have e0:ent a 0=[]:=by unfold ent;rw[MM (k:=0) (by decide)]
 have o0 :∀k:Int,k<1->ofK a.Other k=[]:=by
  intro k hk
  unfold ofK
  rw[List.flatMap_eq_nil_iff]
  intro x hx
  have:=(Dx v.O hx).2.1
  rw[if_neg (by simp only[beq_iff_eq];omega)]
 have e1:ent a 1=[x1 (Aa a.Origin)]:=by
  unfold ent
  have:G a 1=if a.Origin≠-1 then some [Aa a.Origin] else none:=rfl
  rw[this,if_pos ho]
  rfl
 unfold wrS
 have hr:List.range' 0 256=0::1::List.range' 2 254:=rfl
 rw[hr,List.flatMap_cons,List.flatMap_cons]
 refine⟨ofK a.Other 1++(List.range' 2 254).flatMap fun (k:Nat)=>ent a k++ofK a.Other k,?_⟩
 show (ent a 0++ofK a.Other 0)++((ent a 1++ofK a.Other 1)++_)=_
 rw[e0,o0 0 (by decide),e1]
 rfl
theorem WE {l:List JAA}{x y:JAA}(h:ltT x y=true):FB ltT (x::l) y=x::FB ltT l y:=by
 unfold FB
 rw[List.takeWhile_cons,if_pos h,List.dropWhile_cons,if_pos h]
 rfl
theorem Yl {u:JAG}(h:WrU u)(ha:u.Announce≠[]) :∃rest,Bc u=x1 (Aa u.JAD.Origin)::rest:=by
 have hp:0<u.Announce.length:=List.length_pos_iff.2 ha
 obtain⟨r,hr⟩:=am (h.g.a hp).1 (h.o ha).1
 have e0:lst0 u=x1 (Aa u.JAD.Origin)::r:=(if_pos hp).trans hr
 obtain⟨r1,e1⟩ :∃r1,HK u=x1 (Aa u.JAD.Origin)::r1:=by
  rw[Pv,e0]
  split
  ·exact⟨_,WE rfl⟩
  exact⟨_,rfl⟩
 rw[MY,e1]
 split
 ·exact⟨_,WE rfl⟩
 exact⟨_,rfl⟩
theorem cZ (o p:UInt8)(r:List JAA):DC (x1 o::r) 14=DC (x1 p::r) 14/\DC (x1 o::r) 15=DC (x1 p::r) 15:=by
 constructor<;>rw[Ds (show (1:Int)≠_ by decide),Ds (show (1:Int)≠_ by decide)]
theorem V3 {u:JAG}(h:WrU u)(hj:(Bn (Bc u)).2=0)(ha:u.Announce≠[]){rest:List JAA}(hl:Bc u=x1 (Aa u.JAD.Origin)::rest) :
  cE (DU u (A6 (x1 9::rest)))=(⟨(u.Withdraw.filter fun p=>p.Addr.V6==false)++(u.Withdraw.filter fun p=>p.Addr.V6==true)++u.Announce,eA,[]⟩,13):=by
 obtain⟨n,hR,_⟩:=WG h
 have hU:=Q8 h
 obtain⟨j1,j2⟩:=QM hj
 have k:=Rb h
 have cw4:=BD (six:=false) h.g.gw
 have hw:=h.w
 obtain⟨s14,s15⟩:=cZ 9 (Aa u.JAD.Origin) rest
 have hR':Ey (x1 9::rest)=some (n,u.Announce.filter fun p=>p.Addr.V6==true):=by
  rw[<- hR]
  unfold Ey
  rw[s14,hl]
 have hU':DF (x1 9::rest)=some (u.Withdraw.filter fun p=>p.Addr.V6==true):=by
  rw[<- hU]
  unfold DF
  rw[s15,hl]
 have hb :∀x∈x1 9::rest,ZK x:=by
  intro x hx
  rcases List.mem_cons.1 hx with rfl | hx
  ·exact⟨.inl rfl,show (0:Int)<=1 by decide,show (1:Int)<=255 by decide,show 1<=65535 by decide⟩
  exact k.b x (by rw[hl];exact X19 _ hx)
 have hlen:(A6 (x1 9::rest)).length<=2048:=by
  have e:(A6 (x1 9::rest)).length=(A6 (Bc u)).length:=by
   rw[hl]
   unfold A6
   rw[List.flatMap_cons,List.flatMap_cons,X11,X11]
   rfl
  omega
 have hd:H7 (x1 9::rest):=by
  have:=k.d
  rw[hl] at this
  obtain⟨a1,a2⟩:=List.pairwise_cons.1 this
  exact List.pairwise_cons.2 ⟨fun y hy=>a1 y hy,a2⟩
 have hbad:(x1 9::rest).any LR=(Bc u).any LR:=by
  rw[hl,List.any_cons,List.any_cons]
  rfl
 have hbad0:(Bc u).any LR=false:=by
  have hrd:=Zv h
  rw[if_pos (List.length_pos_iff.2 ha)] at hrd
  cases hq:(Bc u).any LR with
  | false=>rfl
  | true=>
   unfold rdS at hrd
   rw[If k.d,hq,if_pos rfl] at hrd
   exact absurd (congrArg Prod.snd hrd) (show ¬ ((12:Int)=0) by decide)
 have hrd:rdS (x1 9::rest)=(zA,13):=by
  unfold rdS
  rw[If hd,hbad,hbad0,if_neg (by decide)]
  have:Ji eA (x1 9::rest)=none:=by
   show (stepS eA (x1 9)).bind _=none
   have:stepS eA (x1 9)=none:=by decide
   rw[this];rfl
  rw[this]
 have hP:=Yn h hj (by have:=Zv h;rw[this];split<;>rfl)
 have e1:HV (DU u (A6 (x1 9::rest)))=some (AU false u.Withdraw,two (A6 (x1 9::rest)).length++A6 (x1 9::rest)++AU false u.Announce):=by
  have:=NY (w:=AU false u.Withdraw) (r:=two (A6 (x1 9::rest)).length++A6 (x1 9::rest)++AU false u.Announce) (by omega)
  rw[<- this]
  unfold DU
  simp only[List.append_assoc]
 have e2:HV (two (A6 (x1 9::rest)).length++A6 (x1 9::rest)++AU false u.Announce)=some (A6 (x1 9::rest),AU false u.Announce):=NY (by omega)
 obtain⟨n',hP,_⟩:=hP
 have hok:=(Su (by
  unfold DU
  have c2:=BD (six:=false) h.g.ga
  have:=h.n
  rw[j1]
  simp only[X11]
  have t :∀n,(two n).length=2:=fun n=>rfl
  rw[t,t]
  omega) hP).ok
 unfold cE JZ
 rw[e1]
 dsimp only
 rw[e2]
 dsimp only
 rw[Ls _ _ hb,List.nil_append,I7,hR',hU',Fz h.g.gw,Fz h.g.ga,List.nil_append,List.nil_append,JP,if_pos ⟨hok,by rw[hrd];decide⟩]
 dsimp only
 rw[filter_all h.s,if_neg ha]
 have hf :∀P:Pt,P.l=x1 9::rest->Yg P=true:=by
  intro P hPl
  unfold Yg
  rw[hPl,hrd]
  rfl
 rw[if_pos (hf _ rfl)]
theorem YF {α:Type}(x:α) :∀(P Q:List α) (i:Nat),(P++Q).set (P.length+i) x=P++Q.set i x
 | [],Q,i=>by rw[X13,Nat.zero_add];rfl
 | y::P,Q,i=>by
  rw[X12,List.cons_append,show P.length+1+i=(P.length+i)+1 by omega,List.set_cons_succ,YF x P Q i]
  rfl
theorem X3 {α:Type}(P Q:List α)(i:Nat):(P++Q)[P.length+i]?=Q[i]?:=by
 rw[List.getElem?_append_right (by omega)]
 congr 1
 omega
theorem dY (o:UInt8):Ir (x1 o)=[64,1,1,o]:=by
 have:hdB (x1 o)=[64,1,1]:=by
  unfold hdB x1
  dsimp only
  rw[if_neg (by simp)]
  show [Aa ((BitVec.ofInt 8 ((Aa 64).toNat:Int) &&& BitVec.ofInt 8 224).toNat:Int),Aa 1,Aa (1:Int)]=[64,1,1]
  decide
 unfold Ir
 rw[this]
 rfl
theorem M8 (u:JAG)(o:UInt8)(rest:List JAA):DU u (A6 (x1 o::rest))=(two (AU false u.Withdraw).length++AU false u.Withdraw++two (4+(A6 rest).length))++(64::1::1::o::(A6 rest++AU false u.Announce)):=by
 have hj:A6 (x1 o::rest)=64::1::1::o::A6 rest:=by
  unfold A6
  rw[List.flatMap_cons,dY]
  rfl
 have hl:(A6 (x1 o::rest)).length=4+(A6 rest).length:=by
  rw[hj]
  simp only[X12]
  omega
 unfold DU
 rw[hl,hj]
 simp only[List.append_assoc,List.cons_append]
theorem P4 (u:JAG)(n:Nat):(two (AU false u.Withdraw).length++AU false u.Withdraw++two n).length=(AU false u.Withdraw).length+4:=by
 rw[X11,X11]
 show 2+_+2=_
 omega
theorem WW (u:JAG)(o:UInt8)(rest:List JAA):(DU u (A6 (x1 o::rest))).set ((AU false u.Withdraw).length+7) 9=DU u (A6 (x1 9::rest)):=by
 rw[M8,M8,show (AU false u.Withdraw).length+7=(two (AU false u.Withdraw).length++AU false u.Withdraw++two (4+(A6 rest).length)).length+3 by rw[P4],YF]
 rfl
theorem bQ (u:JAG)(o:UInt8)(rest:List JAA):(DU u (A6 (x1 o::rest)))[(AU false u.Withdraw).length+5]?=some 1/\(DU u (A6 (x1 o::rest)))[(AU false u.Withdraw).length+6]?=some 1:=by
 rw[M8]
 constructor
 ·rw[show (AU false u.Withdraw).length+5=(two (AU false u.Withdraw).length++AU false u.Withdraw++two (4+(A6 rest).length)).length+1 by rw[P4],X3]
  rfl
 rw[show (AU false u.Withdraw).length+6=(two (AU false u.Withdraw).length++AU false u.Withdraw++two (4+(A6 rest).length)).length+2 by rw[P4],X3]
 rfl
end Go.AX.Q19
end
