/-
  Texts of one proof, packed.
-/
import Derived.Test.YtbohbnpaadcfmaaGreatDoorKD5
import Derived.Test.YtbohbnpaadcfmaaGreatDoorKD7
import Derived.KernelRfl
set_option linter.all false
set_option maxRecDepth 100000
set_option maxHeartbeats 4000000
open List renaming length_map→X10,length_append→X11,length_cons→X12,length_nil→X13,mem_singleton→X14,length_drop→X17,length_take→X18,mem_cons_of_mem→X19,length_replicate→X20,length_singleton→X22,mem_append→X23
open Option.some renaming inj→X25
open Bool renaming and_eq_true→X27,eq_iff_iff→X28
open Nat renaming le_of_ble_eq_true→X29,mul_le_mul_right→X31,add_mul→X32
section
namespace Go.AX.Q19
open Go Go.AX
def WR3 (a0:JAE)(v26:List (Int×(List UInt8))):Option ((List JAA)×Int):=
 AC (τ:=Bool) (fun k27=>
  if (!(Addr.eqd a0.Next (⟨false,(0:UInt64),(0:UInt64)⟩:Addr))) then
   k27 (cond true (!a0.Next.V6) false)
  else
   k27 false
 ) fun v28=>
 AC (τ:=(List (Int×(List UInt8)))) (fun k29=>
  if v28 then
   Option.bind (Bn a0.Next) fun v30=>
   k29 (Cf v26 3 v30)
  else
   k29 v26
 ) fun v31=>
 AC (τ:=(List (Int×(List UInt8)))) (fun k32=>
  if (decide (a0.MED ≥ 0)) then
   Option.bind (AU a0.MED 4) fun v33=>
   k32 (Cf v31 4 v33)
  else
   k32 v31
 ) fun v34=>
 AC (τ:=(List (Int×(List UInt8)))) (fun k35=>
  if (decide (a0.Pref ≥ 0)) then
   Option.bind (AU a0.Pref 4) fun v36=>
   k35 (Cf v34 5 v36)
  else
   k35 v34
 ) fun v37=>
 AC (τ:=(List (Int×(List UInt8)))×(List UInt8)) (fun k38=>
  Option.bind (chk ((BV v37 8).isNone=true)) fun _=>
  Ak (σ:=(List (Int×(List UInt8)))×(List UInt8)) (fun (v39,v40)=>
   k38 (v39,v40)
  ) (fun next41 (x42:JAB) i43 (v39,v40)=>
   Option.bind (AU x42.A 2) fun v44=>
   Option.bind (apnd (α:=UInt8) 1 v40 v44) fun v45=>
   Option.bind (AU x42.B 2) fun v46=>
   Option.bind (apnd (α:=UInt8) 1 v45 v46) fun v47=>
   next41 ((Cf v39 8 v47),v47)
  ) a0.Communities 0 (v37,[])
 ) fun (v48,v49)=>
 AC (τ:=(List (Int×(List UInt8)))×(List UInt8)) (fun k50=>
  Option.bind (chk ((BV v48 32).isNone=true)) fun _=>
  Ak (σ:=(List (Int×(List UInt8)))×(List UInt8)) (fun (v51,v52)=>
   k50 (v51,v52)
  ) (fun next53 (x54:JAF) i55 (v51,v52)=>
   Option.bind (AU x54.A 4) fun v56=>
   Option.bind (apnd (α:=UInt8) 1 v52 v56) fun v57=>
   Option.bind (AU x54.B 4) fun v58=>
   Option.bind (apnd (α:=UInt8) 1 v57 v58) fun v59=>
   Option.bind (AU x54.C 4) fun v60=>
   Option.bind (apnd (α:=UInt8) 1 v59 v60) fun v61=>
   next53 ((Cf v51 32 v61),v61)
  ) a0.JAF 0 (v48,[])
 ) fun (v62,v63)=>
 AC (τ:=(List (Int×(List UInt8)))) (fun k64=>
  if (decide (a0.OTC ≥ 0)) then
   Option.bind (AU a0.OTC 4) fun v65=>
   k64 (Cf v62 35 v65)
  else
   k64 v62
 ) fun v66=>
 AC (τ:=(List JAA)) (fun k67=>
  Ao (σ:=Int×(List JAA)) (fun next68 (v69,v70)=>
   if (decide (v69<256)) then
    AC (τ:=(List JAA)) (fun k71=>
     Option.bind (some (Option.getD (BV v66 v69) [])) fun v72=>
     Option.bind (some (Option.isSome (BV v66 v69))) fun v73=>
     AC (τ:=(List JAA)) (fun k74=>
      if v73 then
       Option.bind (Be v69) fun v75=>
       Option.bind (apnd (α:=UInt8) 1 [] v72) fun _=>
       Option.bind (apnd (α:=JAA) 40 v70 ([(⟨v75,v69,v72⟩:JAA)]:List JAA)) fun v76=>
       k74 v76
      else
       k74 v70
     ) fun v77=>
     AC (τ:=(List JAA)) (fun k78=>
      Ak (σ:=(List JAA)) (fun v79=>
       k78 v79
      ) (fun next80 (x81:JAA) i82 v79=>
       AC (τ:=(List JAA)) (fun k83=>
        if (x81.Type_==v69) then
         Option.bind (apnd (α:=UInt8) 1 [] x81.Data) fun _=>
         Option.bind (apnd (α:=JAA) 40 v79 ([{ x81 with Type_:=v69 }]:List JAA)) fun v84=>
         k83 v84
        else
         k83 v79
       ) fun v85=>
       next80 v85
      ) a0.Other 0 v77
     ) fun v86=>
     k71 v86
    ) fun v87=>
    next68 ((AD (v69+1)),v87)
   else
    k67 v70
  ) fuel (0,[])
 ) fun v88=>
 some (v88,0)
def WR4 (a0:JAE)(v31:List (Int×(List UInt8))):Option ((List JAA)×Int):=
 AC (τ:=(List (Int×(List UInt8)))) (fun k32=>
  if (decide (a0.MED ≥ 0)) then
   Option.bind (AU a0.MED 4) fun v33=>
   k32 (Cf v31 4 v33)
  else
   k32 v31
 ) fun v34=>
 AC (τ:=(List (Int×(List UInt8)))) (fun k35=>
  if (decide (a0.Pref ≥ 0)) then
   Option.bind (AU a0.Pref 4) fun v36=>
   k35 (Cf v34 5 v36)
  else
   k35 v34
 ) fun v37=>
 AC (τ:=(List (Int×(List UInt8)))×(List UInt8)) (fun k38=>
  Option.bind (chk ((BV v37 8).isNone=true)) fun _=>
  Ak (σ:=(List (Int×(List UInt8)))×(List UInt8)) (fun (v39,v40)=>
   k38 (v39,v40)
  ) (fun next41 (x42:JAB) i43 (v39,v40)=>
   Option.bind (AU x42.A 2) fun v44=>
   Option.bind (apnd (α:=UInt8) 1 v40 v44) fun v45=>
   Option.bind (AU x42.B 2) fun v46=>
   Option.bind (apnd (α:=UInt8) 1 v45 v46) fun v47=>
   next41 ((Cf v39 8 v47),v47)
  ) a0.Communities 0 (v37,[])
 ) fun (v48,v49)=>
 AC (τ:=(List (Int×(List UInt8)))×(List UInt8)) (fun k50=>
  Option.bind (chk ((BV v48 32).isNone=true)) fun _=>
  Ak (σ:=(List (Int×(List UInt8)))×(List UInt8)) (fun (v51,v52)=>
   k50 (v51,v52)
  ) (fun next53 (x54:JAF) i55 (v51,v52)=>
   Option.bind (AU x54.A 4) fun v56=>
   Option.bind (apnd (α:=UInt8) 1 v52 v56) fun v57=>
   Option.bind (AU x54.B 4) fun v58=>
   Option.bind (apnd (α:=UInt8) 1 v57 v58) fun v59=>
   Option.bind (AU x54.C 4) fun v60=>
   Option.bind (apnd (α:=UInt8) 1 v59 v60) fun v61=>
   next53 ((Cf v51 32 v61),v61)
  ) a0.JAF 0 (v48,[])
 ) fun (v62,v63)=>
 AC (τ:=(List (Int×(List UInt8)))) (fun k64=>
  if (decide (a0.OTC ≥ 0)) then
   Option.bind (AU a0.OTC 4) fun v65=>
   k64 (Cf v62 35 v65)
  else
   k64 v62
 ) fun v66=>
 AC (τ:=(List JAA)) (fun k67=>
  Ao (σ:=Int×(List JAA)) (fun next68 (v69,v70)=>
   if (decide (v69<256)) then
    AC (τ:=(List JAA)) (fun k71=>
     Option.bind (some (Option.getD (BV v66 v69) [])) fun v72=>
     Option.bind (some (Option.isSome (BV v66 v69))) fun v73=>
     AC (τ:=(List JAA)) (fun k74=>
      if v73 then
       Option.bind (Be v69) fun v75=>
       Option.bind (apnd (α:=UInt8) 1 [] v72) fun _=>
       Option.bind (apnd (α:=JAA) 40 v70 ([(⟨v75,v69,v72⟩:JAA)]:List JAA)) fun v76=>
       k74 v76
      else
       k74 v70
     ) fun v77=>
     AC (τ:=(List JAA)) (fun k78=>
      Ak (σ:=(List JAA)) (fun v79=>
       k78 v79
      ) (fun next80 (x81:JAA) i82 v79=>
       AC (τ:=(List JAA)) (fun k83=>
        if (x81.Type_==v69) then
         Option.bind (apnd (α:=UInt8) 1 [] x81.Data) fun _=>
         Option.bind (apnd (α:=JAA) 40 v79 ([{ x81 with Type_:=v69 }]:List JAA)) fun v84=>
         k83 v84
        else
         k83 v79
       ) fun v85=>
       next80 v85
      ) a0.Other 0 v77
     ) fun v86=>
     k71 v86
    ) fun v87=>
    next68 ((AD (v69+1)),v87)
   else
    k67 v70
  ) fuel (0,[])
 ) fun v88=>
 some (v88,0)
def WR5 (a0:JAE)(v34:List (Int×(List UInt8))):Option ((List JAA)×Int):=
 AC (τ:=(List (Int×(List UInt8)))) (fun k35=>
  if (decide (a0.Pref ≥ 0)) then
   Option.bind (AU a0.Pref 4) fun v36=>
   k35 (Cf v34 5 v36)
  else
   k35 v34
 ) fun v37=>
 AC (τ:=(List (Int×(List UInt8)))×(List UInt8)) (fun k38=>
  Option.bind (chk ((BV v37 8).isNone=true)) fun _=>
  Ak (σ:=(List (Int×(List UInt8)))×(List UInt8)) (fun (v39,v40)=>
   k38 (v39,v40)
  ) (fun next41 (x42:JAB) i43 (v39,v40)=>
   Option.bind (AU x42.A 2) fun v44=>
   Option.bind (apnd (α:=UInt8) 1 v40 v44) fun v45=>
   Option.bind (AU x42.B 2) fun v46=>
   Option.bind (apnd (α:=UInt8) 1 v45 v46) fun v47=>
   next41 ((Cf v39 8 v47),v47)
  ) a0.Communities 0 (v37,[])
 ) fun (v48,v49)=>
 AC (τ:=(List (Int×(List UInt8)))×(List UInt8)) (fun k50=>
  Option.bind (chk ((BV v48 32).isNone=true)) fun _=>
  Ak (σ:=(List (Int×(List UInt8)))×(List UInt8)) (fun (v51,v52)=>
   k50 (v51,v52)
  ) (fun next53 (x54:JAF) i55 (v51,v52)=>
   Option.bind (AU x54.A 4) fun v56=>
   Option.bind (apnd (α:=UInt8) 1 v52 v56) fun v57=>
   Option.bind (AU x54.B 4) fun v58=>
   Option.bind (apnd (α:=UInt8) 1 v57 v58) fun v59=>
   Option.bind (AU x54.C 4) fun v60=>
   Option.bind (apnd (α:=UInt8) 1 v59 v60) fun v61=>
   next53 ((Cf v51 32 v61),v61)
  ) a0.JAF 0 (v48,[])
 ) fun (v62,v63)=>
 AC (τ:=(List (Int×(List UInt8)))) (fun k64=>
  if (decide (a0.OTC ≥ 0)) then
   Option.bind (AU a0.OTC 4) fun v65=>
   k64 (Cf v62 35 v65)
  else
   k64 v62
 ) fun v66=>
 AC (τ:=(List JAA)) (fun k67=>
  Ao (σ:=Int×(List JAA)) (fun next68 (v69,v70)=>
   if (decide (v69<256)) then
    AC (τ:=(List JAA)) (fun k71=>
     Option.bind (some (Option.getD (BV v66 v69) [])) fun v72=>
     Option.bind (some (Option.isSome (BV v66 v69))) fun v73=>
     AC (τ:=(List JAA)) (fun k74=>
      if v73 then
       Option.bind (Be v69) fun v75=>
       Option.bind (apnd (α:=UInt8) 1 [] v72) fun _=>
       Option.bind (apnd (α:=JAA) 40 v70 ([(⟨v75,v69,v72⟩:JAA)]:List JAA)) fun v76=>
       k74 v76
      else
       k74 v70
     ) fun v77=>
     AC (τ:=(List JAA)) (fun k78=>
      Ak (σ:=(List JAA)) (fun v79=>
       k78 v79
      ) (fun next80 (x81:JAA) i82 v79=>
       AC (τ:=(List JAA)) (fun k83=>
        if (x81.Type_==v69) then
         Option.bind (apnd (α:=UInt8) 1 [] x81.Data) fun _=>
         Option.bind (apnd (α:=JAA) 40 v79 ([{ x81 with Type_:=v69 }]:List JAA)) fun v84=>
         k83 v84
        else
         k83 v79
       ) fun v85=>
       next80 v85
      ) a0.Other 0 v77
     ) fun v86=>
     k71 v86
    ) fun v87=>
    next68 ((AD (v69+1)),v87)
   else
    k67 v70
  ) fuel (0,[])
 ) fun v88=>
 some (v88,0)
def WR8 (a0:JAE)(v37:List (Int×(List UInt8))):Option ((List JAA)×Int):=
 AC (τ:=(List (Int×(List UInt8)))×(List UInt8)) (fun k38=>
  Option.bind (chk ((BV v37 8).isNone=true)) fun _=>
  Ak (σ:=(List (Int×(List UInt8)))×(List UInt8)) (fun (v39,v40)=>
   k38 (v39,v40)
  ) (fun next41 (x42:JAB) i43 (v39,v40)=>
   Option.bind (AU x42.A 2) fun v44=>
   Option.bind (apnd (α:=UInt8) 1 v40 v44) fun v45=>
   Option.bind (AU x42.B 2) fun v46=>
   Option.bind (apnd (α:=UInt8) 1 v45 v46) fun v47=>
   next41 ((Cf v39 8 v47),v47)
  ) a0.Communities 0 (v37,[])
 ) fun (v48,v49)=>
 AC (τ:=(List (Int×(List UInt8)))×(List UInt8)) (fun k50=>
  Option.bind (chk ((BV v48 32).isNone=true)) fun _=>
  Ak (σ:=(List (Int×(List UInt8)))×(List UInt8)) (fun (v51,v52)=>
   k50 (v51,v52)
  ) (fun next53 (x54:JAF) i55 (v51,v52)=>
   Option.bind (AU x54.A 4) fun v56=>
   Option.bind (apnd (α:=UInt8) 1 v52 v56) fun v57=>
   Option.bind (AU x54.B 4) fun v58=>
   Option.bind (apnd (α:=UInt8) 1 v57 v58) fun v59=>
   Option.bind (AU x54.C 4) fun v60=>
   Option.bind (apnd (α:=UInt8) 1 v59 v60) fun v61=>
   next53 ((Cf v51 32 v61),v61)
  ) a0.JAF 0 (v48,[])
 ) fun (v62,v63)=>
 AC (τ:=(List (Int×(List UInt8)))) (fun k64=>
  if (decide (a0.OTC ≥ 0)) then
   Option.bind (AU a0.OTC 4) fun v65=>
   k64 (Cf v62 35 v65)
  else
   k64 v62
 ) fun v66=>
 AC (τ:=(List JAA)) (fun k67=>
  Ao (σ:=Int×(List JAA)) (fun next68 (v69,v70)=>
   if (decide (v69<256)) then
    AC (τ:=(List JAA)) (fun k71=>
     Option.bind (some (Option.getD (BV v66 v69) [])) fun v72=>
     Option.bind (some (Option.isSome (BV v66 v69))) fun v73=>
     AC (τ:=(List JAA)) (fun k74=>
      if v73 then
       Option.bind (Be v69) fun v75=>
       Option.bind (apnd (α:=UInt8) 1 [] v72) fun _=>
       Option.bind (apnd (α:=JAA) 40 v70 ([(⟨v75,v69,v72⟩:JAA)]:List JAA)) fun v76=>
       k74 v76
      else
       k74 v70
     ) fun v77=>
     AC (τ:=(List JAA)) (fun k78=>
      Ak (σ:=(List JAA)) (fun v79=>
       k78 v79
      ) (fun next80 (x81:JAA) i82 v79=>
       AC (τ:=(List JAA)) (fun k83=>
        if (x81.Type_==v69) then
         Option.bind (apnd (α:=UInt8) 1 [] x81.Data) fun _=>
         Option.bind (apnd (α:=JAA) 40 v79 ([{ x81 with Type_:=v69 }]:List JAA)) fun v84=>
         k83 v84
        else
         k83 v79
       ) fun v85=>
       next80 v85
      ) a0.Other 0 v77
     ) fun v86=>
     k71 v86
    ) fun v87=>
    next68 ((AD (v69+1)),v87)
   else
    k67 v70
  ) fuel (0,[])
 ) fun v88=>
 some (v88,0)
def WRk (a0:JAE)(v66:List (Int×(List UInt8))):Option ((List JAA)×Int):=
 AC (τ:=(List JAA)) (fun k67=>
  Ao (σ:=Int×(List JAA)) (fun next68 (v69,v70)=>
   if (decide (v69<256)) then
    AC (τ:=(List JAA)) (fun k71=>
     Option.bind (some (Option.getD (BV v66 v69) [])) fun v72=>
     Option.bind (some (Option.isSome (BV v66 v69))) fun v73=>
     AC (τ:=(List JAA)) (fun k74=>
      if v73 then
       Option.bind (Be v69) fun v75=>
       Option.bind (apnd (α:=UInt8) 1 [] v72) fun _=>
       Option.bind (apnd (α:=JAA) 40 v70 ([(⟨v75,v69,v72⟩:JAA)]:List JAA)) fun v76=>
       k74 v76
      else
       k74 v70
     ) fun v77=>
     AC (τ:=(List JAA)) (fun k78=>
      Ak (σ:=(List JAA)) (fun v79=>
       k78 v79
      ) (fun next80 (x81:JAA) i82 v79=>
       AC (τ:=(List JAA)) (fun k83=>
        if (x81.Type_==v69) then
         Option.bind (apnd (α:=UInt8) 1 [] x81.Data) fun _=>
         Option.bind (apnd (α:=JAA) 40 v79 ([{ x81 with Type_:=v69 }]:List JAA)) fun v84=>
         k83 v84
        else
         k83 v79
       ) fun v85=>
       next80 v85
      ) a0.Other 0 v77
     ) fun v86=>
     k71 v86
    ) fun v87=>
    next68 ((AD (v69+1)),v87)
   else
    k67 v70
  ) fuel (0,[])
 ) fun v88=>
 some (v88,0)
theorem YV (a:JAE)(k:Int):(ent a k).length<=1:=by unfold ent;split<;>simp
theorem bP (l:List JAA)(k:Int):(ofK l k).length<=l.length:=I3 (fun x=>by split<;>simp) l
structure Puts (m:List (Int×List UInt8))(a:JAE)(ks:List Int):Prop where
 h :∀k,BV m k=if k∈ks then G a k else none
theorem Puts.add {m:List (Int×List UInt8)}{a:JAE}{ks:List Int}(p:Puts m a ks)(k:Int){b:List UInt8}(hb:G a k=some b):Puts (Cf m k b) a (k::ks):=⟨fun j=>by
 rw[Go.AX.mget_mset,p.h]
 by_cases h:j=k
 ·subst h;simp[hb]
 have:(j==k)=false:=by simpa using h
 rw[this];simp[h]⟩
theorem Puts.skip {m:List (Int×List UInt8)}{a:JAE}{ks:List Int}(p:Puts m a ks)(k:Int)(hb:G a k=none):Puts m a (k::ks):=⟨fun j=>by
 rw[p.h]
 by_cases h:j=k
 ·subst h;simp[hb]
 simp[h]⟩
theorem eV {β ρ:Type}{w:β->List UInt8}{k:Int}{N:Nat}{K:List (Int×List UInt8)×List UInt8->Option ρ}{body:(List (Int×List UInt8)×List UInt8->Option ρ)->β->Nat->List (Int×List UInt8)×List UInt8->Option ρ}{l:List β}{m:List (Int×List UInt8)}
  {R:Option ρ} (hN:(l.flatMap w).length<=N) (hb :∀next x i m b,x∈l->b.length+(w x).length<=N->body next x i (m,b)=next (Cf m k (b++w x),b++w x))
  (hK :∀m' b',(∀j,BV m' j=if l≠[]/\j=k then some (l.flatMap w) else BV m j)->K (m',b')=R):Ak K body l 0 (m,[])=R:=by
 have key :∀(t:List β) (i:Nat) (m:List (Int×List UInt8)) (b:List UInt8),(∀x∈t,x∈l)->b.length+(t.flatMap w).length<=N->∃m' b',Ak K body t i (m,b)=K (m',b')/\∀j,BV m' j=if t≠[]/\j=k then some (b++t.flatMap w) else BV m j:=by
  intro t
  induction t with
  | nil=>intro i m b _ _;exact⟨m,b,rfl,fun j=>by simp⟩
  | cons x t ih=>
   intro i m b hx hl
   rw[List.flatMap_cons,X11] at hl
   obtain⟨m',b',e,h⟩:=ih (i+1) (Cf m k (b++w x)) (b++w x) (fun y hy=>hx y (X19 _ hy)) (by rw[X11];omega)
   refine⟨m',b',?_,fun j=>?_⟩
   ·show body (fun s=>Ak K body t (i+1) s) x i (m,b)=_
    rw[hb _ x i m b (hx x (by simp)) (by omega)]
    exact e
   rw[h j,Go.AX.mget_mset]
   by_cases hj:j=k
   ·subst hj
    by_cases ht:t=[]
    ·subst ht;simp
    simp[ht,List.flatMap_cons]
   simp[hj]
 obtain⟨m',b',e,h⟩:=key l 0 m [] (fun _ h=>h) (by simpa using hN)
 rw[e]
 exact hK m' b' fun j=>by rw[h j,List.nil_append]
theorem dc {a:JAE}{m:List (Int×List UInt8)}{ρ:Type}{K:List JAA->Option ρ}(hO:a.Other.length<=1000000)(hd :∀x∈a.Other,x.Data.length<=1000000)(hg :∀k b,G a k=some b->b.length<=1000000)
  (hm :∀k,BV m k=G a k) :
  AC (τ:=(List JAA)) (fun k67=>
   Ao (σ:=Int×(List JAA)) (fun next68 p=>match p with
    | (v69,v70)=>if (decide (v69<256))=true then
     AC (τ:=(List JAA)) (fun k71=>
      Option.bind (some (Option.getD (BV m v69) [])) fun v72=>
      Option.bind (some (Option.isSome (BV m v69))) fun v73=>
      AC (τ:=(List JAA)) (fun k74=>
       if v73=true then
        Option.bind (Be v69) fun v75=>
        Option.bind (apnd (α:=UInt8) 1 [] v72) fun _=>
        Option.bind (apnd (α:=JAA) 40 v70 ([(⟨v75,v69,v72⟩:JAA)]:List JAA)) fun v76=>
        k74 v76
       else
        k74 v70
      ) fun v77=>
      AC (τ:=(List JAA)) (fun k78=>
       Ak (σ:=(List JAA)) (fun v79=>
        k78 v79
       ) (fun next80 (x81:JAA) i82 v79=>
        AC (τ:=(List JAA)) (fun k83=>
         if (x81.Type_==v69)=true then
          Option.bind (apnd (α:=UInt8) 1 [] x81.Data) fun _=>
          Option.bind (apnd (α:=JAA) 40 v79 ([{ x81 with Type_:=v69 }]:List JAA)) fun v84=>
          k83 v84
         else
          k83 v79
        ) fun v85=>
        next80 v85
       ) a.Other 0 v77
      ) fun v86=>
      k71 v86
     ) fun v87=>
     next68 ((AD (v69+1)),v87)
    else
     k67 v70
   ) fuel (0,[])
  ) K=K (wrS a):=by
 rw[AB]
 refine (B9 (fun s:Int×List JAA=>∃k:Nat,s.1=k/\k<=256/\s.2.length<=k*1000001) (fun s=>(256-s.1).toNat) (fun s=>K (s.2++(List.range' s.1.toNat (256-s.1.toNat)).flatMap fun (k:Nat)=>ent a k++ofK a.Other k)) ?_ fuel (0,[]) ⟨0,rfl,by omega,by simp⟩ (BS (by simp only;omega))).trans rfl
 rintro next ⟨kk,v⟩ ⟨k,rfl,hk2,hv⟩ hn
 dsimp only at hv ⊢
 by_cases hk:k<256
 ·rw[if_pos (by simp only[decide_eq_true_eq];omega),AB,AA,AA,hm]
  have he:=YV a k
  have hent :∀q:List JAA->Option ρ,AC (τ:=(List JAA)) (fun k74=>
       if (G a k).isSome=true then
        Option.bind (Be k) fun v75=>
        Option.bind (apnd (α:=UInt8) 1 [] ((G a k).getD [])) fun _=>
        Option.bind (apnd (α:=JAA) 40 v ([(⟨v75,k,((G a k).getD [])⟩:JAA)]:List JAA)) fun v76=>
        k74 v76
       else
        k74 v
      ) q=q (v++ent a k):=by
   intro q
   rw[AB]
   unfold ent
   cases hG:G a k with
   | none=>rw[if_neg (by decide),List.append_nil]
   | some b=>
    have:=hg k b hG
    rw[if_pos (show (some b).isSome=true from rfl),Bl,AA,Option.getD_some,AQ (by decide) (by simp;omega),AA,AQ (by decide) (by simp;omega),AA]
  rw[hent,AB]
  have hlen:=bP a.Other k
  refine (W3 (g:=fun x:JAA=>if (x.Type_==(k:Int))=true then [x] else []) (N:=(k+1)*1000001) (by unfold ofK at hlen;rw[X11];omega) fun next2 x i w hx hw=>?_).trans ?_
  ·rw[AB]
   by_cases hc:(x.Type_==(k:Int))=true
   ·rw[if_pos hc] at hw
    have:=hd x hx
    simp only[X22] at hw
    rw[if_pos hc,if_pos hc,AQ (by decide) (by simp;omega),AA,AQ (by decide) (by simp;omega),AA]
    have e:x.Type_=(k:Int):=by simpa using hc
    rw[<- e]
   rw[if_neg hc,if_neg hc,List.append_nil]
  show next (AD ((k:Int)+1),v++ent a k++ofK a.Other k)=_
  rw[AP (by omega),hn _ ⟨k+1,by simp,by omega,by simp only[X11];omega⟩ (by simp only;omega)]
  have e1:((k:Int)+1).toNat=k+1:=by omega
  have e2:256-k=(256-(k+1))+1:=by omega
  simp only[e1,Int.toNat_natCast]
  rw[e2,List.range'_succ,List.flatMap_cons,List.append_assoc,List.append_assoc,List.append_assoc]
 rw[if_neg (by simp only[decide_eq_true_eq];omega)]
 have:256-(k:Int).toNat=0:=by omega
 rw[this]
 simp
structure VA (a:JAE):Prop where
 O:FI a.Other=true
 o:-1<=a.Origin/\a.Origin<=2
 p:GO a.Path=true
 n:a.Next.ok=true
 m:-1<=a.MED/\a.MED<=4294967295
 r:-1<=a.Pref/\a.Pref<=4294967295
 t:a.OTC=-1\/(1<=a.OTC/\a.OTC<=4294967295)
 c:Eh a.Communities=true
 l:Ei a.JAF=true
 e:a.Other.length<=8
theorem Uh {a:JAE}:KZ a=true↔VA a:=by
 unfold KZ N3
 simp only[X27,Bool.or_eq_true,decide_eq_true_eq]
 constructor
 ·rintro⟨h1,h2,h3,h4,h5,h6,h7,h8,h9,h10⟩
  exact⟨h1,h2,h3,h4,h5,h6,h7,h8,h9,h10⟩
 rintro⟨h1,h2,h3,h4,h5,h6,h7,h8,h9,h10⟩
 exact⟨h1,h2,h3,h4,h5,h6,h7,h8,h9,h10⟩
theorem J9 {p:List JAD}(h:GO p=true):p.length<=tot p/\tot p<=64:=by
 unfold GO at h
 simp only[X27,List.all_eq_true,decide_eq_true_eq] at h
 refine⟨?_,h.2⟩
 have h1:=h.1.1
 clear h
 induction p with
 | nil=>exact Nat.le_refl _
 | cons s t ih=>
  rw[EV,X12]
  have h2:=ih fun x hx=>h1 x (X19 _ hx)
  have h3:=h1 s (by simp)
  simp only[S8,X27,decide_eq_true_eq] at h3
  omega
theorem VA.sm {a:JAE}(v:VA a):SmT a:=by
 obtain⟨h1,h2⟩:=J9 v.p
 have h3:=(Gm.1 v.c).2.2
 have h4:=(Gk.1 v.l).2.2
 have h5:=v.e
 exact⟨by omega,by omega,by omega,by omega,by omega,fun u hu=>by have:=(Ix v.O hu).2.2.2.2;omega⟩
theorem cg {a:JAE}(v:VA a){k:Int}{b:List UInt8}(h:G a k=some b):b.length<=768:=by
 obtain⟨h1,h2⟩:=J9 v.p
 have h3:=(Gm.1 v.c).2.2
 have h4:=(Gk.1 v.l).2.2
 unfold G at h
 split at h
 ·split at h
  ·obtain rfl:=X25 h;simp
  cases h
 split at h
 ·split at h
  ·obtain rfl:=X25 h;rw[TO];omega
  cases h
 split at h
 ·split at h
  ·obtain rfl:=X25 h;simp[b4]
  cases h
 split at h
 ·split at h
  ·obtain rfl:=X25 h;rw[Ut];omega
  cases h
 split at h
 ·split at h
  ·obtain rfl:=X25 h;rw[Ut];omega
  cases h
 split at h
 ·split at h
  ·obtain rfl:=X25 h;rw[TX];omega
  cases h
 split at h
 ·split at h
  ·obtain rfl:=X25 h;rw[SV];omega
  cases h
 split at h
 ·split at h
  ·obtain rfl:=X25 h;rw[Ut];omega
  cases h
 cases h
theorem Si {a:JAE}(v:VA a):Ep a=some (wrS a,0):=by
 have hs:=J9 v.p
 have hc:=(Gm.1 v.c).2.2
 have hl:=(Gk.1 v.l).2.2
 unfold Ep
 rw[Tq v.sm,AA,Uh.2 v,if_neg (by decide)]
 have p0:Puts [] a []:=⟨fun k=>by simp[BV]⟩
 rw[LR]
 have p1:Puts (if decide (a.Origin ≥ 0)=true then Cf ([]:List (Int×List UInt8)) (1:Int) [Am a.Origin] else []) a [1]:=by
  by_cases h:a.Origin ≥ 0
  ·rw[if_pos (by simpa using h)]
   exact p0.add 1 (by unfold G;rw[if_pos rfl,if_pos (by omega)])
  rw[if_neg (by simpa using h)]
  exact p0.skip 1 (by unfold G;rw[if_pos rfl,if_neg (by have:=v.o;omega)])
 generalize (if decide (a.Origin ≥ 0)=true then Cf ([]:List (Int×List UInt8)) (1:Int) [Am a.Origin] else [])=m1 at p1
 rw[LR]
 have eb:(if decide (a.Origin ≥ 0)=true then true else (cond false true (decide ((a.Path.length:Int) > 0))))=decide (a.Origin≠-1\/a.Path≠[]):=by
  have:=v.o
  have e:(a.Path≠[])↔0<a.Path.length:=List.length_pos_iff.symm
  by_cases h:a.Origin ≥ 0
  ·rw[if_pos (by simpa using h),decide_eq_true (.inl (by omega))]
  rw[if_neg (by simpa using h),cond_false]
  have h1:a.Origin=-1:=by omega
  have e2:(a.Origin≠-1\/a.Path≠[])↔0<a.Path.length:=by rw[e];omega
  rw[X28,decide_eq_true_eq,decide_eq_true_eq,e2]
  omega
 rw[eb,AB]
 have step2 :∃m2,Puts m2 a [2,1]/\∀(ρ:Type) (q:List (Int×List UInt8)->Option ρ),(if decide (a.Origin≠-1\/a.Path≠[])=true then q (Cf m1 2 (TM a.Path)) else q m1)=q m2:=by
  by_cases h:a.Origin≠-1\/a.Path≠[]
  ·exact⟨_,p1.add 2 (by unfold G;rw[if_neg (by decide),if_pos rfl,if_pos h]),fun ρ q=>by rw[if_pos (by simpa using h)]⟩
  exact⟨_,p1.skip 2 (by unfold G;rw[if_neg (by decide),if_pos rfl,if_neg h]),fun ρ q=>by rw[if_neg (by simpa using h)]⟩
 rw[Zt (by omega)]
 obtain⟨m2,p2,e2⟩:=step2
 refine (e2 _ (WR3 a)).trans ?_
 unfold WR3
 have en :∀{ρ:Type} (q:Bool->Option ρ),AC (τ:=Bool) (fun k27=>if (!(Addr.eqd a.Next (⟨false,(0:UInt64),(0:UInt64)⟩:Addr)))=true then k27 (cond true (!a.Next.V6) false) else k27 false) q=q (LY a):=by
  intro ρ q
  rw[AB]
  unfold LY
  cases a.Next.V6<;>cases Addr.eqd a.Next ⟨false,0,0⟩<;>rfl
 refine (en _).trans ?_
 rw[AB]
 have step3 :∃m3,Puts m3 a [3,2,1]/\∀(ρ:Type) (q:List (Int×List UInt8)->Option ρ),(if LY a=true then Option.bind (Bn a.Next) fun v30=>q (Cf m2 3 v30) else q m2)=q m3:=by
  by_cases h:LY a=true
  ·have h6:a.Next.V6=false:=by
    unfold LY at h
    cases h6:a.Next.V6
    ·rfl
    rw[h6] at h;simp at h
   exact⟨_,p2.add 3 (by unfold G;rw[if_neg (by decide),if_neg (by decide),if_pos rfl,if_pos h]),fun ρ q=>by rw[if_pos h,Ys v.n h6,AA]⟩
  exact⟨_,p2.skip 3 (by unfold G;rw[if_neg (by decide),if_neg (by decide),if_pos rfl,if_neg h]),fun ρ q=>by rw[if_neg h]⟩
 obtain⟨m3,p3,e3⟩:=step3
 refine (e3 _ (WR4 a)).trans ?_
 unfold WR4
 rw[AB]
 have step4 :∃m4,Puts m4 a [4,3,2,1]/\∀(ρ:Type) (q:List (Int×List UInt8)->Option ρ),(if decide (a.MED ≥ 0)=true then Option.bind (AU a.MED 4) fun v33=>q (Cf m3 4 v33) else q m3)=q m4:=by
  have:=v.m
  by_cases h:a.MED ≥ 0
  ·exact⟨_,p3.add 4 (by unfold G;rw[if_neg (by decide),if_neg (by decide),if_neg (by decide),if_pos rfl,if_pos (by omega)]),fun ρ q=>by rw[if_pos (by simpa using h),RV,AA]⟩
  exact⟨_,p3.skip 4 (by unfold G;rw[if_neg (by decide),if_neg (by decide),if_neg (by decide),if_pos rfl,if_neg (by omega)]),fun ρ q=>by rw[if_neg (by simpa using h)]⟩
 obtain⟨m4,p4,e4⟩:=step4
 refine (e4 _ (WR5 a)).trans ?_
 unfold WR5
 rw[AB]
 have step5 :∃m5,Puts m5 a [5,4,3,2,1]/\∀(ρ:Type) (q:List (Int×List UInt8)->Option ρ),(if decide (a.Pref ≥ 0)=true then Option.bind (AU a.Pref 4) fun v33=>q (Cf m4 5 v33) else q m4)=q m5:=by
  have:=v.r
  by_cases h:a.Pref ≥ 0
  ·exact⟨_,p4.add 5 (by unfold G;rw[if_neg (by decide),if_neg (by decide),if_neg (by decide),if_neg (by decide),if_pos rfl,if_pos (by omega)]),fun ρ q=>by rw[if_pos (by simpa using h),RV,AA]⟩
  exact⟨_,p4.skip 5 (by unfold G;rw[if_neg (by decide),if_neg (by decide),if_neg (by decide),if_neg (by decide),if_pos rfl,if_neg (by omega)]),fun ρ q=>by rw[if_neg (by simpa using h)]⟩
 obtain⟨m5,p5,e5⟩:=step5
 refine (e5 _ (WR8 a)).trans ?_
 unfold WR8
 have ck8:chk ((BV m5 8).isNone=true)=some ():=by
  have hn:BV m5 8=none:=by rw[p5.h,if_neg (by decide)]
  unfold chk
  rw[hn]
  rfl
 rw[AB,ck8,AA]
 refine eV (w:=Vg) (k:=8) (N:=1000000) (l:=a.Communities) (by rw[TX];omega) (fun next x i m b _ hb=>by
  rw[Tu] at hb
  dsimp only
  rw[cj,AA,AQ (by decide) (by simp[w2];omega),AA,cj,AA,AQ (by decide) (by simp[w2];omega),AA,List.append_assoc]
  rfl) fun m8 b8 h8=>?_
 have p8:Puts m8 a [8,5,4,3,2,1]:=⟨fun j=>by
  rw[h8 j,p5.h]
  by_cases hj:j=8
  ·subst hj
   have:G a 8=if a.Communities≠[] then some (a.Communities.flatMap Vg) else none:=rfl
   simp[this]
  simp[hj]⟩
 dsimp only
 have ck32:chk ((BV m8 32).isNone=true)=some ():=by
  have hn:BV m8 32=none:=by rw[p8.h,if_neg (by decide)]
  unfold chk
  rw[hn]
  rfl
 rw[AB,ck32,AA]
 refine eV (w:=Ru) (k:=32) (N:=1000000) (l:=a.JAF) (by rw[SV];omega) (fun next x i m b _ hb=>by
  rw[Qp] at hb
  dsimp only
  rw[RV,AA,AQ (by decide) (by simp[w4];omega),AA,RV,AA,AQ (by decide) (by simp[w4];omega),AA,RV,AA,AQ (by decide) (by simp[w4];omega),AA,List.append_assoc,List.append_assoc]
  rfl) fun m9 b9 h9=>?_
 have p9:Puts m9 a [32,8,5,4,3,2,1]:=⟨fun j=>by
  rw[h9 j,p8.h]
  by_cases hj:j=32
  ·subst hj
   have:G a 32=if a.JAF≠[] then some (a.JAF.flatMap Ru) else none:=rfl
   simp[this]
  simp[hj]⟩
 dsimp only
 rw[AB]
 have step35 :∃m10,Puts m10 a [35,32,8,5,4,3,2,1]/\∀(ρ:Type) (q:List (Int×List UInt8)->Option ρ),(if decide (a.OTC ≥ 0)=true then Option.bind (AU a.OTC 4) fun v33=>q (Cf m9 35 v33) else q m9)=q m10:=by
  have:=v.t
  have hG:G a 35=if a.OTC≠-1 then some (w4 a.OTC) else none:=rfl
  by_cases h:a.OTC ≥ 0
  ·exact⟨_,p9.add 35 (by rw[hG,if_pos (by omega)]),fun ρ q=>by rw[if_pos (by simpa using h),RV,AA]⟩
  exact⟨_,p9.skip 35 (by rw[hG,if_neg (by omega)]),fun ρ q=>by rw[if_neg (by simpa using h)]⟩
 obtain⟨m10,p10,e10⟩:=step35
 refine (e10 _ (WRk a)).trans ?_
 unfold WRk
 refine (dc (a:=a) (by have:=v.e;omega) (fun x hx=>by have:=(Ix v.O hx).2.2.2.2;omega) (fun k b h=>by have:=cg v h;omega) fun k=>?_).trans rfl
 rw[p10.h]
 split
 ·rfl
 rename_i hk
 simp only[List.mem_cons,List.not_mem_nil,or_false,not_or] at hk
 unfold G
 rw[if_neg hk.2.2.2.2.2.2.2,if_neg hk.2.2.2.2.2.2.1,if_neg hk.2.2.2.2.2.1,if_neg hk.2.2.2.2.1,if_neg hk.2.2.2.1,if_neg hk.2.2.1,if_neg hk.2.1,if_neg hk.1]
theorem Yc (a b:JAA):D1 a b=some (Fb (I2 a) (I2 b)):=VO a b
def Qe:List Int:=[1,2,3,4,5,8,32,35]
def Uo (a:JAE):List JAA:=Qe.flatMap (ent a)++a.Other
theorem ZS {a:JAE}{k:Int}{y:JAA}(h:y∈ent a k):k∈Qe:=by
 obtain⟨b,hb,_⟩:=LP.1 h
 rcases GK k with ⟨e,_⟩|⟨e,_⟩|⟨e,_⟩|⟨e,_⟩|⟨e,_⟩|⟨e,_⟩|⟨e,_⟩|⟨e,_⟩|e
 iterate 8 (subst e;decide)
 rw[UQ e.2.2.2.2.2.2.2.2] at hb;cases hb
theorem am {a:JAE}{y:JAA}:y∈Uo a↔(∃k,y∈ent a k)\/y∈a.Other:=by
 unfold Uo
 rw[X23,List.mem_flatMap]
 exact⟨fun h=>h.imp_left fun ⟨k,_,h⟩=>⟨k,h⟩,fun h=>h.imp_left fun ⟨k,h⟩=>⟨k,ZS h,h⟩⟩
theorem ZJ {a:JAE}(hO:FI a.Other=true):(Uo a).Pairwise fun x y=>I2 x≠I2 y:=by
 unfold Uo
 have hk :∀{x y:JAA},x.Type_≠y.Type_->I2 x≠I2 y:=fun h e=>h (by simpa[I2] using e)
 refine List.pairwise_append.2 ⟨?_,(Ny hO).imp fun {x y} h=>hk (by simp only[ltT,decide_eq_true_eq] at h;omega),fun x hx y hy=>hk fun e=>?_⟩
 ·rw[List.pairwise_flatMap]
  refine⟨fun k _=>?_,?_⟩
  ·unfold ent
   split
   ·exact List.pairwise_singleton _ _
   exact .nil
  have:Qe.Pairwise (·≠·):=by decide
  exact this.imp fun {k j} h x hx y hy=>hk (by rw[M9 hx,M9 hy];exact h)
 obtain⟨k,_,hx⟩:=List.mem_flatMap.1 hx
 obtain⟨b,hb,_⟩:=LP.1 hx
 have:=Zp (Ix hO hy).1
 rw[<- e,M9 hx] at this
 rw[UQ this] at hb;cases hb
theorem Y2 {a:JAE}(hO:FI a.Other=true)(hl:(Uo a).length<=1000000):Ez D1 (Uo a)=some (wrS a):=by
 obtain⟨r,h1,h2,h3⟩:=QG I4 Yc (l:=Uo a) (by omega)
 rw[h1]
 congr 1
 refine Xq I4 (S4 I4 h3 ?_) (ZT hO) fun x=>?_
 ·exact (h2.pairwise_iff fun h e=>h e.symm).2 (ZJ hO)
 rw[h2.mem_iff,am,aU hO]
theorem Vp (a:JAE):(Qe.flatMap (ent a)).length<=8:=I3 (YV a) Qe
theorem U6 {b:List UInt8}{x y:Int}(hb:b.length<=1000000):Ok (G0 b x y) fun r=>r.length<=b.length+1:=by
 unfold G0
 refine .bind (Ok.apnd (by decide) (by simp;omega)) fun _ _=>.ite (fun _=>.ret (by simp)) fun h=>?_
 have hpos:0<b.length:=by
  cases b with
  | nil=>simp at h
  | cons z t=>simp
 refine .bind (H6 (by omega)) fun k hk=>.bind (H6 (by omega)) fun q _=>?_
 refine .ite (fun _=>?_) fun _=>.ite (fun _=>?_) fun _=>.ite (fun _=>?_) fun _=>?_
 ·exact .bind (.geti (by omega)) fun _ _=>.bind (.seti (by omega)) fun r hr=>.ret (by omega)
 ·rw[AP (x:=k+1) (by omega)]
  refine .bind (Ok.chk (by omega)) fun _ _=>.bind (Ok.chk (by omega)) fun _ _=>.bind (Ok.apnd (by decide) (by simp only[X18,X17];omega)) fun r hr=>.ret ?_
  rw[hr]
  simp only[X11,X18,X17]
  omega
 ·refine .bind (Ok.chk (by omega)) fun _ _=>.bind (Ok.apnd (by decide) (by simp only[X13,X18,X17];omega)) fun _ _=>.bind (Ok.apnd (by decide) (by simp only[X18,X17,X22];omega)) fun r hr=>.bind (Ok.chk (by omega)) fun _ _=>.bind (Ok.apnd (by decide) (by rw[hr];simp only[X11,X18,X17,X22];omega)) fun s hs=>.ret ?_
  rw[hs,hr]
  simp only[X11,X18,X17,X22]
  omega
 refine .bind (.part (by omega)) fun r hr=>.ret ?_
 omega
theorem UR {a:JAE}(v:VA a):(wrS a).length<=16:=by
 have h:=GP (Y2 v.O (by unfold Uo;rw[X11];have:=Vp a;have:=v.e;omega))
 rw[h]
 unfold Uo
 rw[X11]
 have:=Vp a
 have:=v.e
 omega
theorem Ue {a:JAE}(v:VA a){x:JAA}(h:x∈wrS a):x.Data.length<=768:=by
 rcases (aU v.O).1 h with ⟨k,h⟩|h
 ·obtain⟨b,hb,rfl⟩:=LP.1 h
  exact cg v hb
 have:=(Ix v.O h).2.2.2.2
 omega
theorem dZ (l:List Int):NI l=some ⟨l,0⟩:=rfl
theorem cQ {h l:UInt64}(hh:h.toNat=0)(hl:l.toNat<72057594037927936):(Ad ((BitVec.ofInt 64 ((Ad ((h.toNat:Int)*(2^(min (Int.toNat 8) 64)))).toNat:Int) ||| BitVec.ofInt 64 ((Ad (Int.fdiv (l.toNat:Int) (2^(min (Int.toNat 56) 64)))).toNat:Int)).toNat:Int))=0:=by
 have e1:Int.fdiv (l.toNat:Int) (2^(min (Int.toNat 56) 64))=((l.toNat/2^(min 56 64):Nat):Int):=fd l.toNat 56
 have e2:l.toNat/2^(min 56 64)=0:=Nat.div_eq_of_lt hl
 rw[e1,e2,hh]
 have e3:(((0:Nat):Int)*(2^(min (Int.toNat 8) 64)))=((0:Nat):Int):=by simp
 rw[e3,DO]
 rfl
def Xe (v4:Addr)(x6:UInt8):Addr:=⟨v4.V6,(Ad ((BitVec.ofInt 64 ((Ad ((v4.Hi.toNat:Int)*(2^(min (Int.toNat 8) 64)))).toNat:Int) ||| BitVec.ofInt 64 ((Ad (Int.fdiv (v4.Lo.toNat:Int) (2^(min (Int.toNat 56) 64)))).toNat:Int)).toNat:Int)),(Ad ((BitVec.ofInt 64 ((Ad ((v4.Lo.toNat:Int)*(2^(min (Int.toNat 8) 64)))).toNat:Int) ||| BitVec.ofInt 64 ((Ad (x6.toNat:Int)).toNat:Int)).toNat:Int))⟩
theorem QK {m:Nat}(hm:m<16777216)(x:UInt8):Xe ⟨false,0,UInt64.ofNat m⟩ x=⟨false,0,UInt64.ofNat (m*256+x.toNat)⟩:=by
 have e:(UInt64.ofNat m).toNat=m:=by rw[UInt64.toNat_ofNat'];omega
 unfold Xe
 dsimp only
 rw[cQ rfl (by omega),UE (by omega) x.toNat_lt,e]
def okJ (x:JAA):Bool:=decide (0<=x.Flags)&&(decide (x.Flags<=255)&&(decide (0<=x.Type_)&&(decide (x.Type_<=255)&&decide ((x.Data.length:Int)<=65535))))
def hdB (x:JAA):List UInt8:=if decide ((x.Data.length:Int) > 255)=true then ([(Am ((BitVec.ofInt 8 ((Am ((BitVec.ofInt 8 ((Am x.Flags).toNat:Int) &&& BitVec.ofInt 8 224).toNat:Int)).toNat:Int) ||| BitVec.ofInt 8 16).toNat:Int)),(Am x.Type_),(Am (Int.fdiv (x.Data.length:Int) (2^(min (Int.toNat 8) 64)))),(Am (x.Data.length:Int))]:List UInt8)
 else ([(Am ((BitVec.ofInt 8 ((Am x.Flags).toNat:Int) &&& BitVec.ofInt 8 224).toNat:Int)),(Am x.Type_),(Am (x.Data.length:Int))]:List UInt8)
def Z2 (x:JAA):List UInt8:=hdB x++x.Data
def PH (l:List JAA):List UInt8:=l.flatMap Z2
def OA (l:List JAA):List UInt8×Int:=if l.all okJ=true then (if (PH l).length > 2048 then ([],3) else (PH l,0)) else ([],1)
theorem ah (x:JAA):(Z2 x).length<=x.Data.length+4:=by
 unfold Z2 hdB
 rw[X11]
 split<;>simp<;>omega
theorem TD {N:Nat} :∀{l:List JAA},(∀x∈l,x.Data.length<=N)->(PH l).length<=l.length*(N+4)
 | [],_=>by simp[PH]
 | x::t,h=>by
  have ih:=TD (l:=t) fun y hy=>h y (X19 _ hy)
  have h1:=ah x
  have h2:=h x (by simp)
  unfold PH at ih ⊢
  rw[List.flatMap_cons,X11,X12,X32]
  omega
theorem dB {x:JAA}{v:List UInt8}{ρ:Type}{K:List UInt8->Option ρ}(hv:v.length+4<=1000000000) :
  AC (τ:=(List UInt8)) (fun k12=>
    if (decide ((x.Data.length:Int) > 255))=true then
     Option.bind (apnd (α:=UInt8) 1 v ([(Am ((BitVec.ofInt 8 ((Am ((BitVec.ofInt 8 ((Am x.Flags).toNat:Int) &&& BitVec.ofInt 8 224).toNat:Int)).toNat:Int) ||| BitVec.ofInt 8 16).toNat:Int)),(Am x.Type_),(Am (Int.fdiv (x.Data.length:Int) (2^(min (Int.toNat 8) 64)))),(Am (x.Data.length:Int))]:List UInt8)) fun v13=>
     k12 v13
    else
     Option.bind (apnd (α:=UInt8) 1 v ([(Am ((BitVec.ofInt 8 ((Am x.Flags).toNat:Int) &&& BitVec.ofInt 8 224).toNat:Int)),(Am x.Type_),(Am (x.Data.length:Int))]:List UInt8)) fun v14=>
     k12 v14
   ) K=K (v++hdB x):=by
 rw[AB]
 unfold hdB
 split
 ·rw[AQ (by decide) (by simp;omega),AA]
 rw[AQ (by decide) (by simp;omega),AA]
theorem VU {l:List JAA}(h1:l.length<=1000)(h2 :∀x∈l,x.Data.length<=100000):GZ l=some (OA l):=by
 have hlen:=TD h2
 have hlen2:l.length*(100000+4)<=1000*100004:=X31 _ h1
 unfold GZ OA
 rw[AB]
 refine (aA (g:=okJ) (r0:=some ([],1)) fun next x i _=>?_).trans ?_
 ·have e:okJ x=!(decide (x.Flags<0) || (decide (x.Flags > 255) || (decide (x.Type_<0) || (decide (x.Type_ > 255) || decide ((x.Data.length:Int) > 65535))))):=by
   unfold okJ
   rw[X28]
   simp only[X27,Bool.not_eq_true',Bool.or_eq_false_iff,decide_eq_true_eq,decide_eq_false_iff_not]
   omega
  rw[AB,e]
  cases decide (x.Flags < 0)<;>cases decide (x.Flags > 255)<;>cases decide (x.Type_ < 0)<;>cases decide (x.Type_ > 255)<;>cases decide ((x.Data.length:Int) > 65535)<;>rfl
 cases ha:l.all okJ
 ·rfl
 rw[cond_true,if_pos rfl,AB]
 refine (W3 (g:=Z2) (N:=999999990) (by show [].length+(PH l).length<=_;simp only[X13];omega) fun next x i v hx hv=>?_).trans ?_
 ·unfold Z2 at hv ⊢
  rw[X11] at hv
  have hh:(hdB x).length<=4/\3<=(hdB x).length:=by unfold hdB;split<;>simp
  rw[dB (by omega),AQ (by decide) (by rw[X11];omega),AA,List.append_assoc]
 show (if decide (((PH l).length:Int) > 2048)=true then _ else _)=_
 by_cases hc:(PH l).length > 2048
 ·rw[if_pos (by simp only[decide_eq_true_eq];omega),if_pos hc]
 rw[if_neg (by simp only[decide_eq_true_eq];omega),if_neg hc]
 rfl
theorem Z6 (b:List UInt8):JM b=some (decide ((b.length:Int)<=600)):=rfl
theorem Ti {l:List JAA}:(OA l).1.length<=2048:=by
 unfold OA
 split
 ·split
  ·simp
  dsimp only;omega
 simp
theorem ZQ {d:List UInt8}(h:d.length=4):(addrOf d).ok=true:=by
 match d,h with
 | [a,b,c,e],_=>
  have h1 :∀K:Addr->Option (Addr×Int),Ak (σ:=Addr) (fun v4=>K v4) (fun next5 x6 _ v4=>next5 (Xe v4 x6)) [a,b,c,e] 0 ⟨false,0,UInt64.ofNat 0⟩=K ⟨false,0,UInt64.ofNat (val [a,b,c,e])⟩:=by
   intro K
   have ha:=a.toNat_lt
   have hb:=b.toNat_lt
   have hc:=c.toNat_lt
   rw[Ya]
   rw[List.foldl_cons,QK (by omega),List.foldl_cons,QK (by omega),List.foldl_cons,QK (by omega),List.foldl_cons,QK (by omega),List.foldl_nil]
   rfl
  have main:BF [a,b,c,e]=some (⟨false,0,UInt64.ofNat (val [a,b,c,e])⟩,0):=h1 fun v8=>some (v8,0)
  have hv:=Me [a,b,c,e]
  simp only[X12,X13] at hv
  unfold addrOf
  rw[main]
  show Addr.ok ⟨false,0,UInt64.ofNat (val [a,b,c,e])⟩=true
  have e2:(UInt64.ofNat (val [a,b,c,e])).toNat=val [a,b,c,e]:=by rw[UInt64.toNat_ofNat'];omega
  have e3:decide (((UInt64.ofNat (val [a,b,c,e])).toNat:Int)<4294967296)=true:=decide_eq_true (by rw[e2];omega)
  unfold Addr.ok
  dsimp only
  rw[e3]
  rfl
structure VB (a:JAE):Prop where
 o:-1<=a.Origin/\a.Origin<=2
 p:GO a.Path=true
 n:a.Next.ok=true
 m:-1<=a.MED/\a.MED<=4294967295
 r:-1<=a.Pref/\a.Pref<=4294967295
 t:a.OTC=-1\/(1<=a.OTC/\a.OTC<=4294967295)
 c:Eh a.Communities=true
 l:Ei a.JAF=true
theorem VB.empty:VB eA:=⟨by decide,rfl,by decide,by decide,by decide,.inl rfl,rfl,rfl⟩
theorem VB.step {a a':JAE}{x:JAA}(v:VB a)(hd:x.Data.length<=1000000)(h:stepS a x=some a'):VB a':=by
 unfold stepS at h
 split at h
 ·obtain rfl:=X25 h
  exact v
 split at h
 rotate_left
 ·cases h
 unfold Fh at h
 split at h
 ·obtain⟨n,hn,rfl⟩:=Option.map_eq_some_iff.1 h
  unfold I9 at hn
  split at hn
  ·rename_i hc
   obtain rfl:=X25 hn
   have:0<=Db x.Data:=by rw[Gw (by omega)];omega
   exact⟨⟨by dsimp only;omega,hc.2⟩,v.p,v.n,v.m,v.r,v.t,v.c,v.l⟩
  cases hn
 split at h
 ·obtain⟨n,hn,rfl⟩:=Option.map_eq_some_iff.1 h
  unfold Ol at hn
  cases hq:rdL x.Data [] with
  | none=>rw[hq] at hn;cases hn
  | some p=>
   rw[hq,Option.bind_some] at hn
   have hs:=VT hd hq
   rw[OK (by omega) (by omega)] at hn
   split at hn
   ·obtain rfl:=X25 hn
    exact⟨v.o,‹_›,v.n,v.m,v.r,v.t,v.c,v.l⟩
   cases hn
 split at h
 ·obtain⟨n,hn,rfl⟩:=Option.map_eq_some_iff.1 h
  unfold RI at hn
  split at hn
  ·obtain rfl:=X25 hn
   exact⟨v.o,v.p,ZQ ‹_›,v.m,v.r,v.t,v.c,v.l⟩
  cases hn
 split at h
 ·obtain⟨n,hn,rfl⟩:=Option.map_eq_some_iff.1 h
  unfold rd4 at hn
  split at hn
  ·obtain rfl:=X25 hn
   have:=LS ‹_›
   exact⟨v.o,v.p,v.n,⟨by dsimp only;omega,by dsimp only;omega⟩,v.r,v.t,v.c,v.l⟩
  cases hn
 split at h
 ·obtain⟨n,hn,rfl⟩:=Option.map_eq_some_iff.1 h
  unfold rd4 at hn
  split at hn
  ·obtain rfl:=X25 hn
   have:=LS ‹_›
   exact⟨v.o,v.p,v.n,v.m,⟨by dsimp only;omega,by dsimp only;omega⟩,v.t,v.c,v.l⟩
  cases hn
 split at h
 ·obtain⟨n,hn,rfl⟩:=Option.map_eq_some_iff.1 h
  unfold O1 at hn
  split at hn
  ·rename_i hc
   obtain rfl:=X25 hn
   exact⟨v.o,v.p,v.n,v.m,v.r,v.t,MG (Ko _) (by rw[LX];omega),v.l⟩
  cases hn
 split at h
 ·obtain⟨n,hn,rfl⟩:=Option.map_eq_some_iff.1 h
  unfold Jk at hn
  split at hn
  ·rename_i hc
   obtain rfl:=X25 hn
   exact⟨v.o,v.p,v.n,v.m,v.r,v.t,v.c,ME (Iq _ (KI _)) (by rw[Ju,E4];omega)⟩
  cases hn
 split at h
 ·obtain⟨n,hn,rfl⟩:=Option.map_eq_some_iff.1 h
  unfold WI at hn
  split at hn
  ·rename_i hc
   obtain rfl:=X25 hn
   have:=LS hc.1
   have:=hc.2
   exact⟨v.o,v.p,v.n,v.m,v.r,.inr ⟨by dsimp only;omega,by dsimp only;omega⟩,v.c,v.l⟩
  cases hn
 obtain rfl:=X25 h
 exact v
theorem eR {b:Bool}{m:Nat}(h:m<2^128):(mkA b m).n=m:=by
 unfold mkA Addr.n
 simp only[UInt64.toNat_ofNat']
 omega
theorem aH (a:Addr)(n:Nat):a.n/2^(a.w-n)*2^(a.w-n)<=a.n:=Nat.div_mul_le_self _ _
theorem cE {a:Addr}(h:a.ok=true):a.n<2^128:=by
 have:=Addr.n_lt h
 have hw:a.w<=128:=by unfold Addr.w;split<;>omega
 exact Nat.lt_of_lt_of_le this (Nat.pow_le_pow_right (by omega) hw)
theorem bz (m:Nat):(mkA true m).ok=true:=by
 unfold mkA Addr.ok
 simp only[cond_true]
theorem Xt {x y:Bool}(hx:x=true)(hy:y=true):cond false true (cond x y false)=true:=by rw[hx,hy];rfl
theorem cR {m:Nat}(h:m<4294967296):(mkA false m).ok=true:=by
 have e1:m/2^64=0:=Nat.div_eq_of_lt (by omega)
 have e2:(UInt64.ofNat m).toNat=m:=by simp only[UInt64.toNat_ofNat'];omega
 unfold mkA
 rw[e1]
 exact Xt (x:=(((UInt64.ofNat 0).toNat:Int)==0)) (y:=decide (((UInt64.ofNat m).toNat:Int)<4294967296)) (by simp) (decide_eq_true (by rw[e2];omega))
theorem dY {a:Addr}(h:a.ok=true)(n:Nat):(a.cut n).ok=true:=by
 have hc:=aH a n
 unfold Addr.cut
 cases h6:a.V6
 ·obtain⟨h1,h2⟩:=Addr.ok4 h h6
  have hn:a.n=a.Lo.toNat:=by unfold Addr.n;rw[h1,Nat.zero_mul,Nat.zero_add]
  exact cR (by omega)
 exact bz _
theorem cM {a:Addr}(h:a.ok=true)(n:Nat):(a.cut n).cut n=a.cut n:=by
 have hs:=cE h
 have hc:=aH a n
 have e1:(a.cut n).n=a.n/2^(a.w-n)*2^(a.w-n):=by unfold Addr.cut;exact eR (by omega)
 have e2:(a.cut n).w=a.w:=by unfold Addr.w;rw[XL]
 have e3:(a.cut n).V6=a.V6:=XL a n
 show mkA (a.cut n).V6 ((a.cut n).n/2^((a.cut n).w-n)*2^((a.cut n).w-n))=mkA a.V6 (a.n/2^(a.w-n)*2^(a.w-n))
 rw[e1,e2,e3,Nat.mul_div_cancel _ (Nat.two_pow_pos _)]
theorem ZU {a:Addr}(h:a.ok=true){n:Int}(h0:0<=n)(h1:n<=a.w):Fv ⟨a.cut n.toNat,n⟩:=by
 have e2:(a.cut n.toNat).w=a.w:=by unfold Addr.w;rw[XL]
 exact⟨dY h _,h0,by simp only;rw[e2];exact h1,cM h _⟩
def byB (a:Addr):List UInt8:=(Bn a).getD []
theorem Uc {a:Addr}(h:a.ok=true):Bn a=some (byB a)/\(byB a).length=a.L:=by
 obtain⟨r,h1,h2,_⟩:=KF h
 unfold byB
 rw[h1]
 exact⟨rfl,h2⟩
def WU (p:JAC):List UInt8:=Am p.Len::(byB p.Addr).take ((p.Len.toNat+7)/8)
def EL (six:Bool)(l:List JAC):List UInt8:=l.flatMap fun p=>if (p.Addr.V6==six)=true then WU p else []
theorem w_L (a:Addr):a.w=8*a.L/\a.L<=16:=by unfold Addr.w Addr.L;split<;>exact⟨rfl,by omega⟩
theorem Tz {p:JAC}(h:Fv p):(WU p).length<=17:=by
 obtain⟨h1,h2,h3,_⟩:=h
 obtain⟨_,e2⟩:=Uc h1
 have:=(w_L p.Addr).2
 unfold WU
 simp only[X12,X18]
 omega
theorem Ph (six:Bool)(p:JAC)(t:List JAC):EL six (p::t)=(if (p.Addr.V6==six)=true then WU p else [])++EL six t:=List.flatMap_cons
theorem H8 {six:Bool} :∀{l:List JAC},(∀p∈l,Fv p)->(EL six l).length<=17*l.length
 | [],_=>by simp[EL]
 | p::t,h=>by
  have h1:=Tz (h p (by simp))
  have h2:=H8 (six:=six) (l:=t) fun q hq=>h q (X19 _ hq)
  rw[Ph,X11,X12]
  split
  ·omega
  simp only[X13];omega
theorem LV {l:List JAC}(hl:l.length<=100000)(hg :∀p∈l,Fv p)(six:Bool):EO l six=some (EL six l):=by
 unfold EO
 rw[AB]
 refine (Uz (fun (t:List JAC) _ (s:List UInt8)=>s.length+17*t.length<=10000000/\∀p∈t,Fv p) (fun t _ s=>some (s++EL six t)) ?_ ?_ l 0 [] ⟨by simp only[X13];omega,hg⟩).trans ?_
 ·intro i s _
  show some s=some (s++[])
  rw[List.append_nil]
 ·rintro next p t i s ⟨h1,h2⟩ hn
  simp only[X12] at h1
  have hp:=h2 p (by simp)
  have hcl:=Tz hp
  have ht :∀q∈t,Fv q:=fun q hq=>h2 q (X19 _ hq)
  obtain⟨k1,k2,k3,_⟩:=hp
  obtain⟨e1,e2⟩:=Uc k1
  obtain⟨w1,w2⟩:=w_L p.Addr
  rw[AB,Ph]
  by_cases h6:(p.Addr.V6==six)=true
  ·obtain⟨k,hk⟩ :∃k:Nat,p.Len=k:=⟨p.Len.toNat,by omega⟩
   have e3:AD (Int.tdiv (AD (p.Len+7)) 8)=(((p.Len.toNat+7)/8:Nat):Int):=by
    rw[hk,Int.toNat_natCast,AP (x:=(k:Int)+7) (by omega),Int.tdiv_eq_ediv_of_nonneg (by omega),AP (by omega)]
    omega
   have e4:(p.Len.toNat+7)/8<=p.Addr.L:=by omega
   have e5:chk (0<=(0:Int)/\(0:Int)<=(((p.Len.toNat+7)/8:Nat):Int)/\(((p.Len.toNat+7)/8:Nat):Int)<=((byB p.Addr).length:Int))=some ():=if_pos (by rw[e2];omega)
   have e6:List.take (Int.toNat (((p.Len.toNat+7)/8:Nat):Int)-Int.toNat 0) (List.drop (Int.toNat 0) (byB p.Addr))=(byB p.Addr).take ((p.Len.toNat+7)/8):=by
    rw[Int.toNat_natCast];rfl
   rw[if_pos h6,if_pos h6,AQ (by decide) (by simp only[X22];omega),AA,e1,AA,e3,e5,AA,e6,
    AQ (by decide) (by simp only[X11,X22,X18];omega),AA]
   dsimp only
   rw[hn _ ⟨by
    simp only[X11,X22,X18]
    omega,ht⟩]
   unfold WU
   simp only[List.append_assoc,List.singleton_append,List.cons_append,List.nil_append]
  rw[if_neg h6,if_neg h6]
  dsimp only
  rw[hn _ ⟨by omega,ht⟩,List.nil_append]
 rw[List.nil_append]
theorem YW {l:List JAA}(hl:l.length<=1000000)(x:JAA):Fg l x=some (H3 ltT l x):=by
 unfold Fg
 have hf:=cB (p:=(ltT · x)) (l:=l) (by omega) (g:=fun y k=>k (cond true (decide (y.Type_<x.Type_)) false)) (fun y _ k=>rfl) (K:=fun v7=>Option.bind (part l 0 v7) fun v8=>
  Option.bind (apnd (α:=JAA) 40 [] v8) fun _=>
  Option.bind (apnd (α:=JAA) 40 v8 ([x]:List JAA)) fun v9=>
  Option.bind (part l v7 (l.length:Int)) fun v10=>
  Option.bind (apnd (α:=JAA) 40 v9 v10) fun v11=>
  some v11)
 refine Eq.trans hf ?_
 exact RY (K:=some) (b:=40) (lt:=ltT) (l:=l) (x:=x) (by decide) (by omega)
def lst0 (u:JAG):List JAA:=if 0<u.Announce.length then wrS u.JAE else []
def UJ (u:JAG):List JAA:=if 0<(EL true u.Announce).length then H3 ltT (lst0 u) ⟨128,14,[0,2,1,16]++byB u.JAE.Next++[0]++EL true u.Announce⟩ else lst0 u
def Q1 (u:JAG):List JAA:=if 0<(EL true u.Withdraw).length then H3 ltT (UJ u) ⟨128,15,[0,2,1]++EL true u.Withdraw⟩ else UJ u
def two (n:Nat):List UInt8:=[Am (Int.fdiv (n:Int) (2^(min (Int.toNat 8) 64))),Am (n:Int)]
def eS (u:JAG)(a:List UInt8):List UInt8:=two (EL false u.Withdraw).length++EL false u.Withdraw++two a.length++a++EL false u.Announce
def GY (u:JAG):List UInt8×Int:=if (OA (Q1 u)).2≠0 then ([],(OA (Q1 u)).2) else (eS u (OA (Q1 u)).1,0)
structure GoodU (u:JAG):Prop where
 w:u.Withdraw.length<=1000
 n:u.Announce.length<=1000
 gw :∀p∈u.Withdraw,Fv p
 ga :∀p∈u.Announce,Fv p
 a:0<u.Announce.length->VA u.JAE/\(wrS u.JAE).length<=16/\∀x∈wrS u.JAE,x.Data.length<=768
theorem Ob {u:JAG}(g:GoodU u):Ey u=some (GY u):=by
 have cw6:=H8 (six:=true) g.gw
 have cw4:=H8 (six:=false) g.gw
 have ca6:=H8 (six:=true) g.ga
 have ca4:=H8 (six:=false) g.ga
 have hw:=g.w;have hn:=g.n
 have h0:(lst0 u).length<=16/\∀x∈lst0 u,x.Data.length<=768:=by
  unfold lst0
  split
  ·exact (g.a ‹_›).2
  simp
 unfold Ey
 have e0 :∀(K:List JAA->Option (List UInt8×Int)),AC (τ:=(List JAA)) (fun k1=>
  if (decide ((u.Announce.length:Int) > 0)) then
   Option.bind (Ep u.JAE) fun (v2,v3)=>
   if (v3 != 0) then
    some ([],v3)
   else
    k1 v2
  else
   k1 []) K=K (lst0 u):=by
  intro K
  rw[AB]
  unfold lst0
  by_cases h:0<u.Announce.length
  ·rw[if_pos (by simp only[decide_eq_true_eq];omega),if_pos h,Si (g.a h).1,AA]
   exact if_neg (by simp)
  rw[if_neg (by simp only[decide_eq_true_eq];omega),if_neg h]
 rw[e0]
 rw[LV (by omega) g.ga,AA]
 have hL:(byB u.JAE.Next).length<=16\/u.Announce.length=0:=by
  rcases Nat.eq_zero_or_pos u.Announce.length with h | h
  ·exact .inr h
  have:=(Uc (g.a h).1.n).2
  have:=(w_L u.JAE.Next).2
  exact .inl (by omega)
 have e1 :∀{ρ:Type} (K:List JAA->Option ρ),AC (τ:=(List JAA)) (fun k6=>
  if (decide (((EL true u.Announce).length:Int) > 0)) then
   Option.bind (Bn u.JAE.Next) fun v7=>
   Option.bind (apnd (α:=UInt8) 1 ([(0:UInt8),(2:UInt8),(1:UInt8),(16:UInt8)]:List UInt8) v7) fun v8=>
   Option.bind (apnd (α:=UInt8) 1 v8 ([(0:UInt8)]:List UInt8)) fun v9=>
   Option.bind (apnd (α:=UInt8) 1 v9 (EL true u.Announce)) fun v10=>
   Option.bind (Fg (lst0 u) (⟨128,14,v10⟩:JAA)) fun v11=>
   k6 v11
  else
   k6 (lst0 u)) K=K (UJ u):=by
  intro ρ K
  rw[AB]
  unfold UJ
  by_cases h:0<(EL true u.Announce).length
  ·have hpos:0<u.Announce.length:=by omega
   have hl:(byB u.JAE.Next).length<=16:=hL.resolve_right (by omega)
   rw[if_pos (by simp only[decide_eq_true_eq];omega),if_pos h,(Uc (g.a hpos).1.n).1,AA,AQ (by decide) (by simp only[X12,X13];omega),AA,
    AQ (by decide) (by simp only[X11,X12,X13];omega),AA,AQ (by decide) (by simp only[X11,X12,X13];omega),AA,YW (by omega),AA]
  rw[if_neg (by simp only[decide_eq_true_eq];omega),if_neg h]
 rw[e1,LV (by omega) g.gw,AA]
 have h1:(UJ u).length<=17/\∀x∈UJ u,x.Data.length<=20000:=by
  unfold UJ
  split
  ·refine⟨by rw[Is];omega,fun x hx=>?_⟩
   rcases It.1 hx with hx | rfl
   ·have:=h0.2 x hx;omega
   have hl:(byB u.JAE.Next).length<=16:=hL.resolve_right (by omega)
   simp only[X11,X12,X13]
   omega
  exact⟨by omega,fun x hx=>by have:=h0.2 x hx;omega⟩
 have e2 :∀{ρ:Type} (K:List JAA->Option ρ),AC (τ:=(List JAA)) (fun k14=>
  if (decide (((EL true u.Withdraw).length:Int) > 0)) then
   Option.bind (apnd (α:=UInt8) 1 ([(0:UInt8),(2:UInt8),(1:UInt8)]:List UInt8) (EL true u.Withdraw)) fun v15=>
   Option.bind (Fg (UJ u) (⟨128,15,v15⟩:JAA)) fun v16=>
   k14 v16
  else
   k14 (UJ u)) K=K (Q1 u):=by
  intro ρ K
  rw[AB]
  unfold Q1
  by_cases h:0<(EL true u.Withdraw).length
  ·rw[if_pos (by simp only[decide_eq_true_eq];omega),if_pos h,AQ (by decide) (by simp only[X12,X13];omega),AA,YW (by omega),AA]
  rw[if_neg (by simp only[decide_eq_true_eq];omega),if_neg h]
 rw[e2]
 have h2:(Q1 u).length<=18/\∀x∈Q1 u,x.Data.length<=20000:=by
  unfold Q1
  split
  ·refine⟨by rw[Is];omega,fun x hx=>?_⟩
   rcases It.1 hx with hx | rfl
   ·exact h1.2 x hx
   simp only[X11,X12,X13]
   omega
  exact⟨by omega,h1.2⟩
 rw[VU (by omega) (fun x hx=>by have:=h2.2 x hx;omega),AA]
 have hj:=Ti (l:=Q1 u)
 unfold GY
 dsimp only
 by_cases he:(OA (Q1 u)).2=0
 ·have hne:¬ (OA (Q1 u)).2≠0:=fun q=>q he
  rw[if_neg (by rw[he];decide),if_neg hne,LV (by omega) g.gw,AA,AQ (by decide) (by simp only[X12,X13];omega),AA,
   AQ (by decide) (by simp only[X11,X12,X13];omega),AA,AQ (by decide) (by simp only[X11,X12,X13];omega),AA,
   LV (by omega) g.ga,AA,AQ (by decide) (by simp only[X11,X12,X13];omega),AA]
  rfl
 rw[if_pos (by simpa using he),if_pos he]
theorem eD (n:Nat):Int.fdiv (n:Int) (2^(min (Int.toNat 8) 64))=((n/256:Nat):Int):=by
 have:min (Int.toNat 8) 64=8:=rfl
 have e5:((2:Int)^8)=((2^8:Nat):Int):=by simp
 rw[this,e5,Int.fdiv_eq_ediv_of_nonneg _ (Int.natCast_nonneg _),Int.natCast_ediv]
def x15 (u:JAG):JAA:=⟨128,15,[0,2,1]++EL true u.Withdraw⟩
structure WrU (u:JAG):Prop where
 g:GoodU u
 w:u.Withdraw.length<=256
 n:u.Announce.length<=256
 s :∀p∈u.Announce,p.Addr.V6=u.JAE.Next.V6
 o:u.Announce≠[]->u.JAE.Origin≠-1/\u.JAE.Next≠zAd
def Qv (p:JAC):Bool:=(D4 p).getD false
theorem Ri (p:JAC):D4 p=some (Qv p)/\(Qv p=true↔Fv p):=by
 obtain⟨b,h1,h2⟩:=RG p
 unfold Qv
 rw[h1]
 exact⟨rfl,h2⟩
def isE (a:JAE):Bool:=(Dm a eA).getD false
theorem cu (a:JAE):Dm a eA=some (isE a):=by
 obtain⟨b,h⟩:=(inferInstance:Tt (Dm a eA)).h
 unfold isE
 rw[h];rfl
def Yl (a:JAE)(p:JAC):Bool:=(p.Addr.V6==a.Next.V6)&&((a.Origin != -1)&&(!(Addr.eqd a.Next zAd)&&KZ a))
def aP (u:JAG):Bool:=((GY u).2==0)&&decide ((GY u).1.length<=4077)
def PC (u:JAG):Bool:=decide (u.Withdraw.length<=256)&&(decide (u.Announce.length<=256)&&((u.Withdraw++u.Announce).all Qv&&((!(decide (u.Announce=[])) || isE u.JAE)&&(u.Announce.all (Yl u.JAE)&&aP u))))
theorem Px {u:JAG}(hs:SmT u.JAE)(hw:u.Withdraw.length<=1000)(hn:u.Announce.length<=1000)(hW :∀{a:JAE},VA a->(wrS a).length<=16):F3 u=some (PC u):=by
 unfold F3 PC
 rw[AB]
 by_cases h1:u.Withdraw.length<=256
 case neg=>
  rw[if_pos (by simp only[decide_eq_true_eq];omega),decide_eq_false h1]
  rfl
 rw[if_neg (by simp only[decide_eq_true_eq];omega),decide_eq_true h1]
 dsimp only
 by_cases h2:u.Announce.length<=256
 case neg=>
  rw[decide_eq_false h2,if_pos (by simp only[cond_false,decide_eq_true_eq];omega)]
  rfl
 rw[decide_eq_true h2,if_neg (by simp only[cond_false,decide_eq_true_eq];omega),AQ (by decide) (by simp only[X13];omega),AA,AQ (by decide) (by omega),AA,AB]
 refine (aA (g:=Qv) (r0:=some false) fun next p i _=>by
  rw[(Ri p).1,AA]
  cases Qv p<;>rfl).trans ?_
 cases hg:(u.Withdraw++u.Announce).all Qv with
 | false=>rfl
 | true=>
  have hgood :∀p∈u.Withdraw++u.Announce,Fv p:=fun p hp=>(Ri p).2.1 (List.all_eq_true.1 hg p hp)
  simp only[cond_true,Bool.true_and]
  rw[AB]
  have hE:Ew=some eA:=rfl
  by_cases h0:u.Announce=[]
  ·rw[if_pos ((XM _).2 h0),hE,AA,cu,AA,decide_eq_true h0]
   cases he:isE u.JAE with
   | false=>rfl
   | true=>
    simp only[Bool.not_true,cond_true,Bool.false_or,Bool.true_and]
    rw[if_neg (by decide),AB,h0]
    show Option.bind (Ey u) _=_
    have g:GoodU u:=⟨by omega,by omega,fun p hp=>hgood p (List.mem_append_left _ hp),(fun p hp=>by rw[h0] at hp;cases hp),fun q=>by rw[h0] at q;cases q⟩
    rw[Ob g,AA]
    unfold aP
    rw[AB]
    have e:decide (((GY u).1.length:Int)<=4077)=decide ((GY u).1.length<=4077):=by rw[decide_eq_decide];omega
    rw[e]
    cases ((GY u).2==0)<;>cases decide ((GY u).1.length<=4077)<;>rfl
  rw[if_neg (fun q=>h0 ((XM _).1 q)),decide_eq_false h0]
  simp only[Bool.not_false,Bool.true_or,Bool.true_and]
  rw[if_neg (by decide),AB]
  refine (aA (g:=Yl u.JAE) (r0:=some false) fun next p i _=>by
   rw[AB,Tq hs,AA]
   unfold Yl
   have ez:Addr.eqd u.JAE.Next (⟨false,(0:UInt64),(0:UInt64)⟩:Addr)=Addr.eqd u.JAE.Next zAd:=rfl
   have eo:(u.JAE.Origin==(-1))=!(u.JAE.Origin != -1):=(Bool.not_not _).symm
   rw[ez,eo]
   cases (p.Addr.V6==u.JAE.Next.V6)<;>cases (u.JAE.Origin != -1)<;>cases Addr.eqd u.JAE.Next zAd<;>cases KZ u.JAE<;>rfl).trans ?_
  cases hf:u.Announce.all (Yl u.JAE) with
  | false=>rfl
  | true=>
   simp only[cond_true,Bool.true_and]
   have hv:VA u.JAE:=by
    obtain⟨p,hp⟩:=List.exists_mem_of_ne_nil _ h0
    have:=List.all_eq_true.1 hf p hp
    unfold Yl at this
    simp only[X27] at this
    exact Uh.1 this.2.2.2
   have g:GoodU u:=⟨by omega,by omega,fun p hp=>hgood p (List.mem_append_left _ hp),fun p hp=>hgood p (List.mem_append_right _ hp),fun _=>⟨hv,hW hv,fun x hx=>Ue hv hx⟩⟩
   rw[Ob g,AA]
   unfold aP
   rw[AB]
   have e:decide (((GY u).1.length:Int)<=4077)=decide ((GY u).1.length<=4077):=by rw[decide_eq_decide];omega
   rw[e]
   cases ((GY u).2==0)<;>cases decide ((GY u).1.length<=4077)<;>rfl
theorem Tv {u:JAG}(h:PC u=true)(hW :∀{a:JAE},VA a->(wrS a).length<=16):WrU u/\aP u=true/\(u.Announce=[]->isE u.JAE=true):=by
 unfold PC at h
 simp only[X27,decide_eq_true_eq] at h
 obtain⟨h1,h2,h3,h4,h5,h6⟩:=h
 have hgood :∀p∈u.Withdraw++u.Announce,Fv p:=fun p hp=>(Ri p).2.1 (List.all_eq_true.1 h3 p hp)
 have hfit :∀p∈u.Announce,p.Addr.V6=u.JAE.Next.V6/\u.JAE.Origin≠-1/\u.JAE.Next≠zAd/\VA u.JAE:=fun p hp=>by
  have:=List.all_eq_true.1 h5 p hp
  unfold Yl at this
  simp only[X27,beq_iff_eq,bne_iff_ne,Bool.not_eq_true'] at this
  obtain⟨a1,a2,a3,a4⟩:=this
  exact⟨a1,a2,(fun q=>by rw[q,(Addr.eqd_iff _ _).2 rfl] at a3;cases a3),Uh.1 a4⟩
 refine⟨⟨⟨by omega,by omega,fun p hp=>hgood p (List.mem_append_left _ hp),fun p hp=>hgood p (List.mem_append_right _ hp),fun q=>?_⟩,h1,h2,fun p hp=>(hfit p hp).1,fun q=>?_⟩,h6,fun q=>?_⟩
 ·obtain⟨p,hp⟩:=List.exists_mem_of_ne_nil _ (List.length_pos_iff.1 q)
  have v:=(hfit p hp).2.2.2
  exact⟨v,hW v,fun x hx=>Ue v hx⟩
 ·obtain⟨p,hp⟩:=List.exists_mem_of_ne_nil _ q
  exact⟨(hfit p hp).2.1,(hfit p hp).2.2.1⟩
 rw[decide_eq_true q] at h4
 simpa using h4
def encS (u:JAG):List UInt8×Int:=if PC u=true then GY u else ([],1)
theorem T8 {u:JAG}(hs:SmT u.JAE)(hw:u.Withdraw.length<=1000)(hn:u.Announce.length<=1000)(hW :∀{a:JAE},VA a->(wrS a).length<=16):GN u=some (encS u):=by
 unfold GN encS
 rw[Px hs hw hn hW,AA]
 cases hv:PC u with
 | false=>rfl
 | true=>
  rw[if_neg (by decide),if_pos rfl,Ob (Tv hv hW).1.g,AA]
def x1 (o:UInt8):JAA:=⟨64,1,[o]⟩
theorem XH {lo:UInt64}(h:lo.toNat<4294967296):(⟨false,0,lo⟩:Addr).ok=true:=
 Xt (x:=(((0:UInt64).toNat:Int)==0)) (y:=decide ((lo.toNat:Int)<4294967296)) (by simp) (decide_eq_true (by omega))
theorem ok6 (hi lo:UInt64):(⟨true,hi,lo⟩:Addr).ok=true:=by unfold Addr.ok;simp only[cond_true]
theorem PS {x:Int}(h0:0<=x)(h1:x<4294967296):(Ad x).toNat<4294967296:=by
 obtain⟨k,rfl⟩ :∃k:Nat,x=k:=⟨x.toNat,by omega⟩
 rw[DO]
 simp only[UInt64.toNat_ofNat']
 omega
theorem P2 {d:JAI}(hd:Dk d):Ok (En d) fun r=>r.1.ok=true/\Dk r.2:=by
 unfold En
 refine .bind (AI hd (by omega)) ?_
 rintro⟨c,d⟩ ⟨c1,c2,hd⟩
 dsimp only at c1 c2 hd ⊢
 refine .ite (fun _=>.bind (AI hd (by omega)) ?_) fun _=>.ite (fun _=>.bind (AI hd (by omega)) ?_) fun _=>.ite (fun _=>.bind (AI hd (by omega)) ?_) fun _=>.ite (fun _=>.bind (AI hd (by omega)) ?_) fun _=>.ite (fun _=>.bind (AI hd (by omega)) ?_) fun _=>.bind (AI hd (by omega)) ?_
 ·rintro⟨v,d⟩ ⟨v1,v2,hd⟩
  dsimp only at v1 v2 hd ⊢
  refine .bind (AI hd (by omega)) ?_
  rintro⟨u,d⟩ ⟨u1,u2,hd⟩
  dsimp only at u1 u2 hd ⊢
  refine .ret ⟨XH ?_,hd⟩
  have e1:v*(2^(min (Int.toNat 8) 64))=v*256:=rfl
  rw[e1,AP (x:=v*256) (by omega),AP (x:=167772160+v*256) (by omega),AP (by omega)]
  exact PS (by omega) (by omega)
 ·rintro⟨v,d⟩ ⟨v1,v2,hd⟩
  dsimp only at v1 v2 hd ⊢
  refine .bind (AI hd (by omega)) ?_
  rintro⟨u,d⟩ ⟨u1,u2,hd⟩
  exact .ret ⟨ok6 _ _,hd⟩
 ·rintro⟨v,d⟩ ⟨v1,v2,hd⟩
  dsimp only at v1 v2 hd ⊢
  refine .bind (.geti (by simp;omega)) fun x hx=>.ret ⟨XH ?_,hd⟩
  have:=hx.1
  simp only[List.mem_cons,List.not_mem_nil,or_false] at this
  rcases this with rfl | rfl | rfl | rfl | rfl<;>decide
 ·rintro⟨v,d⟩ ⟨v1,v2,hd⟩
  dsimp only at v1 v2 hd ⊢
  refine .bind (.geti (by simp;omega)) fun x hx=>.bind (AI hd (by omega)) ?_
  rintro⟨u,d⟩ ⟨u1,u2,hd⟩
  dsimp only at u1 u2 hd ⊢
  exact .bind (.geti (by simp;omega)) fun y hy=>.ret ⟨ok6 _ _,hd⟩
 ·rintro⟨v,d⟩ ⟨v1,v2,hd⟩
  dsimp only at v1 v2 hd ⊢
  refine .bind (AI hd (by omega)) ?_
  rintro⟨u,d⟩ ⟨u1,u2,hd⟩
  dsimp only at u1 u2 hd ⊢
  refine .bind (AI hd (by omega)) ?_
  rintro⟨u,d⟩ ⟨u1,u2,hd⟩
  dsimp only at u1 u2 hd ⊢
  refine .bind (AI hd (by omega)) ?_
  rintro⟨u,d⟩ ⟨u1,u2,hd⟩
  exact .ret ⟨ok6 _ _,hd⟩
 rintro⟨v,d⟩ ⟨v1,v2,hd⟩
 dsimp only at v1 v2 hd ⊢
 exact .ret ⟨XH (PS (by omega) (by omega)),hd⟩
theorem IX {d:JAI}(hd:Dk d):Ok (Da d) fun r=>Fv r.1/\Dk r.2:=by
 unfold Da
 refine .bind (P2 hd) ?_
 rintro⟨a,d⟩ ⟨ha,hd⟩
 dsimp only at ha hd ⊢
 rw[LR]
 have hw:(if a.V6=true then (128:Int) else 32)=a.w:=by unfold Addr.w;split<;>rfl
 have hwb:a.w=128\/a.w=32:=by unfold Addr.w;split<;>simp
 rw[hw]
 refine .bind (AI hd (by omega)) ?_
 rintro⟨c,d⟩ ⟨c1,c2,hd⟩
 dsimp only at c1 c2 hd ⊢
 refine .join (fun p:Int×JAI=>(0<=p.1/\p.1<=a.w)/\Dk p.2) (fun k hk=>?_) ?_
 ·refine .ite (fun _=>?_) fun _=>?_
  ·rw[AP (x:=(a.w:Int)+1) (by omega)]
   refine .bind (AI hd (by omega)) ?_
   rintro⟨v,d⟩ ⟨v1,v2,hd⟩
   exact hk _ ⟨by simp only at v1 v2 ⊢;omega,hd⟩
  refine .join (fun p:Int×JAI=>(0<=p.1/\p.1<=a.w)/\Dk p.2) (fun k2 hk2=>.ite (fun _=>.bind (AI hd (by omega)) ?_) fun _=>?_) ?_
  ·rintro⟨v,d⟩ ⟨v1,v2,hd⟩
   dsimp only at v1 v2 hd ⊢
   rw[AP (by omega)]
   exact hk2 _ ⟨by simp only;omega,hd⟩
  ·refine .join (fun p:Int×JAI=>(0<=p.1/\p.1<=a.w)/\Dk p.2) (fun k3 hk3=>.ite (fun _=>.bind (AI hd (by omega)) ?_) fun _=>hk3 _ ⟨by simp only;omega,hd⟩) ?_
   ·rintro⟨v,d⟩ ⟨v1,v2,hd⟩
    dsimp only at v1 v2 hd ⊢
    refine .bind (.geti (by simp;omega)) fun x hx=>hk3 _ ⟨?_,hd⟩
    have:=hx.1
    simp only[List.mem_cons,List.not_mem_nil,or_false] at this
    simp only
    rcases this with rfl | rfl | rfl | rfl | rfl<;>omega
   rintro⟨v,d⟩ h;exact hk2 _ h
  rintro⟨v,d⟩ h;exact hk _ h
 rintro⟨v,d⟩ ⟨⟨v1,v2⟩,hd⟩
 dsimp only at v1 v2 hd ⊢
 obtain⟨r,e,h1,h2⟩:=Ie a v
 rw[h1,AA]
 rcases h2 with ⟨_,rfl,rfl⟩|⟨h3,_⟩
 ·exact .ret ⟨ZU ha v1 v2,hd⟩
 exact absurd ⟨ha,v1,v2⟩ h3
structure UOk (u:JAG):Prop where
 s:SmT u.JAE
 w:u.Withdraw.length<=4
 n:u.Announce.length<=5
theorem dH:SmT eA:=⟨by decide,by decide,by decide,by decide,by decide,fun u hu=>by cases hu⟩
theorem UOk.few {l:List JAC}(h :∀p∈l,Fv p)(hl:l.length<=4):UOk ⟨l,eA,[]⟩:=⟨dH,hl,Nat.zero_le _⟩
theorem Wn {α:Type}{P:α->Prop}{l:List α}{x:α}(h :∀y∈l,P y)(hx:P x) :∀y∈l++[x],P y:=fun y hy=>by
 rcases X23.1 hy with hy | hy
 ·exact h y hy
 rw[X14] at hy
 rw[hy];exact hx
theorem NV {d:JAI}(hd:Dk d):Ok (EJ d) fun r=>UOk r.1/\Dk r.2:=by
 unfold EJ
 rw[AB]
 refine .bind (AI hd (by omega)) ?_
 rintro⟨v,d⟩ ⟨v1,v2,hd⟩
 dsimp only at v1 v2 hd ⊢
 refine .join (fun p:JAI×List JAC=>(p.2.length<=4/\∀q∈p.2,Fv q)/\Dk p.1) (fun k hk=>?_) ?_
 ·refine .whileI (fun s:Int×JAI×List JAC=>(0<=s.1/\s.1+s.2.2.length<=4/\∀q∈s.2.2,Fv q)/\Dk s.2.1) (fun s=>s.1.toNat) ⟨⟨v1,by simp only[X13];omega,fun q hq=>by cases hq⟩,hd⟩ (BS (by simp only;omega)) ?_
  rintro next ⟨c,d,p⟩ ⟨⟨h1,h2,h3⟩,hd⟩ hnx
  dsimp only at h1 h2 h3 hd ⊢
  refine .ite (fun h=>?_) fun h=>hk (d,p) ⟨⟨by dsimp only;omega,h3⟩,hd⟩
  simp only[decide_eq_true_eq] at h
  refine .bind (IX hd) ?_
  rintro⟨x,d⟩ ⟨hx,hd⟩
  dsimp only at hx hd ⊢
  refine .bind (Ok.apnd (by decide) (by simp only[X22];omega)) fun r hr=>?_
  rw[AP (by omega),hr]
  exact hnx _ ⟨⟨by dsimp only;omega,by simp only[X11,X22];omega,Wn h3 hx⟩,hd⟩ (by dsimp only;omega)
 rintro⟨d,W⟩ ⟨⟨w1,w2⟩,hd⟩
 dsimp only at w1 w2 hd ⊢
 refine .bind (AI hd (by omega)) ?_
 rintro⟨c,d⟩ ⟨c1,c2,hd⟩
 dsimp only at c1 c2 hd ⊢
 refine .ite (fun _=>.ret ⟨.few w2 w1,hd⟩) fun _=>?_
 refine .bind (AI hd (by omega)) ?_
 rintro⟨six,d⟩ ⟨-,-,hd⟩
 dsimp only at hd ⊢
 refine .bind (AI hd (by omega)) ?_
 rintro⟨v,d⟩ ⟨v1,v2,hd⟩
 dsimp only at v1 v2 hd ⊢
 refine .join (fun p:JAI×List JAC=>(p.2.length<=5/\∀q∈p.2,Fv q)/\Dk p.1) (fun k hk=>?_) ?_
 ·refine .whileI (fun s:Int×JAI×List JAC=>(0<=s.1/\s.1+s.2.2.length<=5/\∀q∈s.2.2,Fv q)/\Dk s.2.1) (fun s=>s.1.toNat) ⟨⟨v1,by simp only[X13];omega,fun q hq=>by cases hq⟩,hd⟩ (BS (by simp only;omega)) ?_
  rintro next ⟨c,d,p⟩ ⟨⟨h1,h2,h3⟩,hd⟩ hnx
  dsimp only at h1 h2 h3 hd ⊢
  refine .ite (fun h=>?_) fun h=>hk (d,p) ⟨⟨by dsimp only;omega,h3⟩,hd⟩
  simp only[decide_eq_true_eq] at h
  refine .bind (IX hd) ?_
  rintro⟨x,d⟩ ⟨hx,hd⟩
  dsimp only at hx hd ⊢
  refine .join (fun q:List JAC=>q.length<=p.length+1/\∀y∈q,Fv y) (fun k27 hk27=>.ite (fun _=>.bind (Ok.apnd (by decide) (by simp only[X22];omega)) fun r hr=>hk27 _ ?_) fun _=>hk27 _ ⟨by omega,h3⟩) fun q hq=>?_
  ·rw[hr]
   exact⟨by simp only[X11,X22];omega,Wn h3 hx⟩
  rw[AP (by omega)]
  exact hnx _ ⟨⟨by dsimp only;omega,by dsimp only;omega,hq.2⟩,hd⟩ (by dsimp only;omega)
 rintro⟨d,A⟩ ⟨⟨a1,a2⟩,hd⟩
 dsimp only at a1 a2 hd ⊢
 refine .ite (fun h=>?_) fun _=>?_
 ·have:A=[]:=List.eq_nil_of_length_eq_zero (by simp only[beq_iff_eq] at h;omega)
  subst this
  exact .ret ⟨.few w2 w1,hd⟩
 refine .bind (I5 hd) ?_
 rintro⟨a,d⟩ ⟨⟨b1,b2,b3,b4,b5,b6,b7⟩,hd⟩
 dsimp only at b1 b2 b3 b4 b5 b6 b7 hd ⊢
 refine .bind (P:=fun _=>True) ⟨_,rfl,trivial⟩ fun f _=>?_
 refine .join (fun _=>True) (fun k hk=>.ite (fun _=>.bind (P:=fun _=>True) ⟨_,rfl,trivial⟩ fun f _=>hk _ trivial) fun _=>hk _ trivial) ?_
 rintro⟨x,y,z⟩ -
 dsimp only
 have hs :∀o n,SmT { a with Origin:=o,Next:=n }:=fun o n=>⟨by dsimp only;omega,by dsimp only;omega,by dsimp only;omega,by dsimp only;omega,by dsimp only;omega,fun u hu=>by have:=b7 u hu;omega⟩
 rw[Px (hs _ _) (by dsimp only;omega) (by dsimp only;omega) UR,AA]
 refine .ite (fun _=>?_) fun _=>.ret ⟨⟨hs _ _,w1,a1⟩,hd⟩
 rw[AB]
 exact .ret ⟨.few (fun q hq=>by cases hq) (Nat.zero_le _),hd⟩
def p10:JAC:=⟨⟨false,(0:UInt64),(167772160:UInt64)⟩,8⟩
theorem awake:G1=some true:=by kernel_rfl
structure SmUp (u:JAG):Prop where
 s:SmT u.JAE
 w:u.Withdraw.length<=1000
 n:u.Announce.length<=1000
theorem UOk.sm {u:JAG}(h:UOk u):SmUp u:=⟨h.s,by have:=h.w;omega,by have:=h.n;omega⟩
theorem aZ {u:JAG}:(encS u).1.length<=4077:=by
 unfold encS
 split
 ·have:=(Tv ‹_› UR).2.1
  unfold aP at this
  simp only[X27,decide_eq_true_eq] at this
  exact this.2
 exact Nat.zero_le _
theorem MU {d:JAI}{w:Int}(hd:Dk d)(hw:0<=w/\w<=128):Ok (FW d w) fun r=>r.1.length<=36/\Dk r.2:=by
 unfold FW
 refine .bind (AI hd (by omega)) ?_
 rintro⟨k,d⟩ ⟨k1,k2,hd⟩
 dsimp only at k1 k2 hd ⊢
 refine .join (fun p:JAI×List UInt8=>p.2.length<=36/\Dk p.1) (fun k3 hk3=>?_) fun p hp=>.ret hp
 refine .whileI (fun s:Int×JAI×List UInt8=>(0<=s.1/\18*s.1+s.2.2.length<=36)/\Dk s.2.1) (fun s=>s.1.toNat) ⟨⟨k1,by simp only[X13];omega⟩,hd⟩ (BS (by simp only;omega)) ?_
 rintro next ⟨c,d,b⟩ ⟨⟨h1,h2⟩,hd⟩ hnx
 dsimp only at h1 h2 hd ⊢
 refine .ite (fun h=>?_) fun _=>hk3 _ ⟨by dsimp only;omega,hd⟩
 simp only[decide_eq_true_eq] at h
 refine .join (fun p:JAI×List UInt8=>p.2.length<=b.length+18/\Dk p.1) (fun k8 hk8=>?_) ?_
 ·rw[AP (x:=w+1) (by omega)]
  refine .bind (AI hd (by omega)) ?_
  rintro⟨n,d⟩ ⟨n1,n2,hd⟩
  dsimp only at n1 n2 hd ⊢
  refine .bind (AI hd (by omega)) ?_
  rintro⟨q,d⟩ ⟨q1,q2,hd⟩
  dsimp only at q1 q2 hd ⊢
  refine .join (fun m:Int=>0<=m/\m<=129) (fun k13 hk13=>.ite (fun _=>hk13 _ (by omega)) fun _=>hk13 _ (by omega)) fun m hm=>?_
  refine .bind (Ok.apnd (by decide) (by simp only[X22];omega)) fun r hr=>?_
  have e:AD (Int.tdiv (AD (m+7)) 8)=(m+7)/8:=by
   rw[AP (x:=m+7) (by omega),Int.tdiv_eq_ediv_of_nonneg (by omega),AP (by omega)]
  rw[e]
  refine .join (fun p:JAI×List UInt8=>p.2.length<=b.length+18/\Dk p.1) (fun k16 hk16=>?_) fun p hp=>hk8 _ hp
  refine .whileI (fun s:Int×JAI×List UInt8=>(0<=s.1/\s.1<=17/\s.2.2.length<=b.length+1+s.1)/\Dk s.2.1) (fun s=>(17-s.1).toNat) ⟨⟨by dsimp only;omega,by dsimp only;omega,by rw[hr];simp⟩,hd⟩ (BS (by simp only;omega)) ?_
  rintro next ⟨i,d,c⟩ ⟨⟨i1,i2,i3⟩,hd⟩ hnx
  dsimp only at i1 i2 i3 hd ⊢
  refine .ite (fun h=>?_) fun _=>hk16 _ ⟨by dsimp only;omega,hd⟩
  simp only[decide_eq_true_eq] at h
  refine .bind (AI hd (by omega)) ?_
  rintro⟨y,d⟩ ⟨y1,y2,hd⟩
  dsimp only at y1 y2 hd ⊢
  refine .bind (Ok.apnd (by decide) (by simp only[X22];omega)) fun r hr=>?_
  rw[AP (x:=i+1) (by omega),hr]
  exact hnx _ ⟨⟨by dsimp only;omega,by dsimp only;omega,by simp only[X11,X22];omega⟩,hd⟩ (by dsimp only;omega)
 rintro⟨d,q⟩ ⟨q1,hd⟩
 dsimp only at q1 hd ⊢
 rw[AP (by omega)]
 exact hnx _ ⟨⟨by dsimp only;omega,by dsimp only;omega⟩,hd⟩ (by dsimp only;omega)
theorem gK {v:Int}(h:0<=v/\v<9):AD (16+AD (Int.tdiv v 8))=16+v/8:=by
 rw[Int.tdiv_eq_ediv_of_nonneg h.1,AP (x:=v/8) (by omega),AP (by omega)]
theorem XD {d:JAI}(hd:Dk d):Ok (Hj d) fun r=>r.1.length<=10000/\Dk r.2:=by
 unfold Hj
 refine .bind (AI hd (by omega)) ?_
 rintro⟨k,d⟩ ⟨-,-,hd⟩
 dsimp only at hd ⊢
 refine .ite (fun _=>?_) fun _=>?_
 ·refine .bind (NV hd) ?_
  rintro⟨u,d⟩ ⟨hu,hd⟩
  dsimp only at hu hd ⊢
  rw[T8 hu.s hu.sm.w hu.sm.n UR,AA]
  have:=aZ (u:=u)
  exact .ret ⟨by dsimp only;omega,hd⟩
 refine .bind (I5 hd) ?_
 rintro⟨a,d⟩ ⟨⟨b1,-⟩,hd⟩
 dsimp only at b1 hd ⊢
 have v:=Uh.1 b1
 rw[Si v,AA]
 dsimp only
 refine .bind (AI hd (by omega)) ?_
 rintro⟨k,d⟩ ⟨k1,k2,hd⟩
 dsimp only at k1 k2 hd ⊢
 have w1:=UR v
 refine .join (fun p:List JAA×JAI=>(p.1.length<=18/\∀x∈p.1,x.Data.length<=1000)/\Dk p.2) (fun k13 hk13=>?_) ?_
 ·refine .whileI (fun s:List JAA×Int×JAI=>(0<=s.2.1/\s.2.1+s.1.length<=18/\∀x∈s.1,x.Data.length<=1000)/\Dk s.2.2) (fun s=>s.2.1.toNat) ⟨⟨k1,by dsimp only;omega,fun x hx=>by have:=Ue v hx;omega⟩,hd⟩ (BS (by simp only;omega)) ?_
  rintro next ⟨l,c,d⟩ ⟨⟨h1,h2,h3⟩,hd⟩ hnx
  dsimp only at h1 h2 h3 hd ⊢
  refine .ite (fun h=>?_) fun _=>hk13 _ ⟨⟨by dsimp only;omega,h3⟩,hd⟩
  simp only[decide_eq_true_eq] at h
  refine .bind (AI hd (by omega)) ?_
  rintro⟨f,d⟩ ⟨f1,f2,hd⟩
  dsimp only at f1 f2 hd ⊢
  refine .bind (AI hd (by omega)) ?_
  rintro⟨g,d⟩ ⟨g1,g2,hd⟩
  dsimp only at g1 g2 hd ⊢
  rw[AP (x:=1+g) (by omega)]
  have e0:=Int.emod_nonneg f (b:=1+g) (by omega)
  have e1:=Int.emod_lt_of_pos f (b:=1+g) (by omega)
  rw[Int.tmod_eq_emod_of_nonneg f1]
  refine .bind (Ok.chk (by omega)) fun _ _=>.bind (.geti (by simp only[X12,X13];omega)) fun fl _=>?_
  refine .bind (AI hd (by omega)) ?_
  rintro⟨t,d⟩ ⟨t1,t2,hd⟩
  dsimp only at t1 t2 hd ⊢
  refine .bind (AI hd (by omega)) ?_
  rintro⟨s,d⟩ ⟨s1,s2,hd⟩
  dsimp only at s1 s2 hd ⊢
  refine .join (fun p:JAI×List UInt8=>p.2.length<=100/\Dk p.1) (fun k27 hk27=>.ite (fun _=>?_) fun _=>hk27 _ ⟨by simp,hd⟩) ?_
  ·refine .bind (AI hd (by omega)) ?_
   rintro⟨y,d⟩ ⟨y1,y2,hd⟩
   dsimp only at y1 y2 hd ⊢
   refine .bind (Ok.apnd (by decide) (by simp)) fun r hr=>?_
   refine .bind (AI hd (by omega)) ?_
   rintro⟨z,d⟩ ⟨z1,z2,hd⟩
   dsimp only at z1 z2 hd ⊢
   rw[gK ⟨z1,z2⟩]
   have hz:(16+z/8).toNat<=17:=by omega
   refine .bind (Ok.chk (by omega)) fun _ _=>.bind (Ok.apnd (by decide) (by rw[hr];simp only[X11,X12,X13,X20];omega)) fun r2 hr2=>?_
   refine .bind (AI hd (by omega)) ?_
   rintro⟨q,d⟩ ⟨q1,q2,hd⟩
   dsimp only at q1 q2 hd ⊢
   refine .bind (Ok.apnd (by decide) (by rw[hr2,hr];simp only[X11,X12,X13,X20];omega)) fun r3 hr3=>hk27 _ ⟨?_,hd⟩
   rw[hr3,hr2,hr]
   simp only[X11,X12,X13,X20]
   omega
  rintro⟨d,b⟩ ⟨hb,hd⟩
  dsimp only at hb hd ⊢
  refine .bind (MU hd (by omega)) ?_
  rintro⟨c2,d⟩ ⟨hc,hd⟩
  dsimp only at hc hd ⊢
  refine .bind (Ok.apnd (by decide) (by omega)) fun r hr=>?_
  have hrl:r.length<=200:=by rw[hr,X11];omega
  rw[AP (x:=(l.length:Int)+1) (by omega)]
  refine .bind (AI hd (by omega)) ?_
  rintro⟨i,d⟩ ⟨i1,i2,hd⟩
  dsimp only at i1 i2 hd ⊢
  refine .bind (Ok.part (by omega)) fun p1 hp1=>.bind (Ok.apnd (by decide) (by simp only[X13];omega)) fun _ _=>.bind (Ok.apnd (by decide) (by simp only[X22];omega)) fun p2 hp2=>.bind (Ok.part (by omega)) fun p3 hp3=>
   .bind (Ok.apnd (by decide) (by rw[hp2,X11,X22];omega)) fun p4 hp4=>?_
  rw[AP (x:=c-1) (by omega)]
  refine hnx _ ⟨⟨by dsimp only;omega,?_,?_⟩,hd⟩ (by dsimp only;omega)
  ·dsimp only
   rw[hp4,hp2,X11,X11,X22]
   omega
  dsimp only
  intro y hy
  rw[hp4,hp2] at hy
  rcases X23.1 hy with hy | hy
  ·rcases X23.1 hy with hy | hy
   ·rw[hp1.1] at hy
    exact h3 y (List.mem_of_mem_drop (List.mem_of_mem_take hy))
   rw[X14] at hy
   rw[hy]
   dsimp only
   omega
  rw[hp3.1] at hy
  exact h3 y (List.mem_of_mem_drop (List.mem_of_mem_take hy))
 rintro⟨l,d⟩ ⟨⟨l1,l2⟩,hd⟩
 dsimp only at l1 l2 hd ⊢
 refine .join (fun p:Bool×JAI=>(p.1=true->0<l.length)/\Dk p.2) (fun k50 hk50=>.ite (fun h=>.bind (AI hd (by omega)) fun r hr=>hk50 _ ⟨fun _=>?_,hr.2.2⟩) fun _=>hk50 _ ⟨(fun q=>nomatch q),hd⟩) ?_
 ·simp only[decide_eq_true_eq] at h
  omega
 rintro⟨c,d⟩ ⟨hc,hd⟩
 dsimp only at hc hd ⊢
 refine .join (fun p:List JAA×JAI=>(p.1.length<=18/\∀x∈p.1,x.Data.length<=1000)/\Dk p.2) (fun k55 hk55=>.ite (fun h=>?_) fun _=>hk55 _ ⟨⟨l1,l2⟩,hd⟩) ?_
 ·have hl:=hc h
  refine .bind (AI hd (by omega)) ?_
  rintro⟨i,d⟩ ⟨i1,i2,hd⟩
  dsimp only at i1 i2 hd ⊢
  rw[AP (x:=i+1) (by omega)]
  refine .bind (Ok.part (by omega)) fun p1 hp1=>.bind (Ok.apnd (by decide) (by simp only[X13];omega)) fun _ _=>.bind (Ok.part (by omega)) fun p3 hp3=>.bind (Ok.apnd (by decide) (by omega)) fun p4 hp4=>hk55 _ ⟨⟨?_,?_⟩,hd⟩
  ·dsimp only
   rw[hp4,X11]
   omega
  dsimp only
  intro y hy
  rw[hp4] at hy
  rcases X23.1 hy with hy | hy
  ·rw[hp1.1] at hy
   exact l2 y (List.mem_of_mem_drop (List.mem_of_mem_take hy))
  rw[hp3.1] at hy
  exact l2 y (List.mem_of_mem_drop (List.mem_of_mem_take hy))
 rintro⟨l,d⟩ ⟨⟨l1,l2⟩,hd⟩
 dsimp only at l1 l2 hd ⊢
 rw[VU (by omega) (fun x hx=>by have:=l2 x hx;omega),AA]
 have hj:=Ti (l:=l)
 refine .bind (MU hd (by omega)) ?_
 rintro⟨w,d⟩ ⟨hw,hd⟩
 dsimp only at hw hd ⊢
 refine .bind (Ok.apnd (by decide) (by simp only[X12,X13];omega)) fun r1 hr1=>?_
 have e1:r1.length<=50:=by rw[hr1,X11];simp only[X12,X13];omega
 refine .bind (Ok.apnd (by decide) (by simp only[X12,X13];omega)) fun r2 hr2=>?_
 have e2:r2.length<=60:=by rw[hr2,X11];simp only[X12,X13];omega
 refine .bind (Ok.apnd (by decide) (by omega)) fun r3 hr3=>?_
 have e3:r3.length<=3000:=by rw[hr3,X11];omega
 refine .bind (MU hd (by omega)) ?_
 rintro⟨q,d⟩ ⟨hq,hd⟩
 dsimp only at hq hd ⊢
 refine .bind (Ok.apnd (by decide) (by omega)) fun r4 hr4=>.ret ⟨?_,hd⟩
 dsimp only
 rw[hr4,X11]
 omega
theorem P4 (p:JAC):JAC.eqd p p=true:=by
 unfold JAC.eqd
 simp only[(Addr.eqd_iff p.Addr p.Addr).2 rfl,beq_self_eq_true,Bool.and_self]
theorem Q4 (l:List JAC):EK l l=some true:=by
 unfold EK
 rw[bne_self_eq_false,if_neg (by decide),AB]
 exact S9 fun next x i h=>by rw[h,AA,P4];rfl
theorem W8 (u:JAG):IA u u=some true:=by
 unfold IA
 rw[AB,Q4,AA,if_pos (by rfl),Q4,AA,if_pos (by decide),Yj,AA]
 rfl
theorem updateDecodes (b:List UInt8)(l:List Int)(x y:Int)(hl:l.length<=maxLen):Cc b l x y=some true:=by
 have hd:Dk ⟨l,0⟩:=⟨Int.le_refl _,Nat.le_trans hl (by decide)⟩
 have main:Ok (Cc b l x y) fun r=>r=true:=by
  unfold Cc
  rw[Z6,AA]
  refine .ite (fun _=>?_) fun h=>?_
  ·rw[awake,AA]
   exact .ret rfl
  have hb:b.length<=600:=by
   cases h2:decide ((b.length:Int)<=600)
   ·rw[h2] at h;simp at h
   simp only[decide_eq_true_eq] at h2;omega
  rw[dZ,AA]
  refine .bind (XD hd) ?_
  rintro⟨c,d⟩ ⟨hc,hd⟩
  dsimp only at hc hd ⊢
  refine .bind (U6 (by omega)) fun s hs=>.bind (Ok.apnd (by decide) (by simp only[X12,X13];omega)) fun v hv=>?_
  refine .join (fun _=>True) (fun k8 hk8=>.for_ (fun _=>hk8 _ trivial) fun next z i _ _ hz hn=>?_) fun _ _=>?_
  ·have sz:z.length<=400000:=by
    simp only[List.mem_cons,List.not_mem_nil,or_false] at hz
    rcases hz with rfl | rfl | rfl | rfl | rfl | rfl | rfl
    ·omega
    ·omega
    ·omega
    ·rw[hv];simp only[X11,X12,X13];omega
    ·decide
    ·simp
    decide
   rw[V2 sz,AA,RQ sz,AA,ZB sz,AA,aN sz,AA]
   refine .join (fun _=>True) (fun k hk=>.ite (fun _=>hk _ trivial) fun _=>hk _ trivial) fun t _=>?_
   refine .join (fun p:JAG×JAG=>p.1=p.2) (fun k hk=>.ite (fun _=>hk _ rfl) fun _=>hk _ rfl) ?_
   rintro⟨p,q⟩ hpq
   dsimp only at hpq ⊢
   rw[hpq,AB,W8,AA,if_neg (by decide),bne_self_eq_false,if_neg (by decide),beq_self_eq_true,if_neg (by decide),beq_self_eq_true]
   exact hn _
  rw[awake,AA]
  exact .ret rfl
 obtain⟨r,h1,h2⟩:=main
 rw[h1,h2]
theorem YC {n:Nat}(h:n<65536) :∃a b:UInt8,two n=[a,b]/\a.toNat*256+b.toNat=n:=by
 have e1:Int.fdiv (n:Int) (2^(min (Int.toNat 8) 64))=((n/256:Nat):Int):=eD n
 refine⟨_,_,rfl,?_⟩
 rw[e1,Iu,Iu,UInt8.toNat_ofNat',UInt8.toNat_ofNat']
 omega
abbrev HL (l:List Int):Prop:=l.length<=maxLen/\l.length*8<=reachBytes/\∀a∈l,I64 a
theorem Qb (b:List UInt8)(l:List Int)(x y:Int){p:Prop}(_:p)(h:HL l)(_:I64 x)(_:I64 y):Cc b l x y=some true:=updateDecodes b l x y h.1
end Go.AX.Q19
end
section
namespace Go.AX.Q19
open Go Go.AX Go.Proofs
variable {wl:Prop}
theorem Vt {a0:List Int}{r:JAI}(h:NI a0=some r):yC wl 12 [AV.d (D.l 1 D.i a0)] [] (.ref 0 0) [.box (JAI.av r)]:=by
 refine oK Tryz.f12 ⟨rfl,?_⟩;unfold NI at h;exact fin h
theorem LJ {r:JAE}(h:Ew=some r):yC wl 17 [] [] (.d (JAE.toD r)) []:=by
 refine oK Tryz.f17 ⟨rfl,?_⟩;unfold Ew at h;exact fin h
theorem KC {a0:Int}{a1:Int}{r:Int}(h:H2 a0 a1=some r):yC wl 14 [AV.d (D.i a0),AV.d (D.i a1)] [] (.d (D.i r)) []:=by
 refine oK Tryz.f14 ⟨rfl,?_⟩;unfold H2 at h;obtain⟨_,g1,h⟩:=AH h;refine⟨Ce g1,_,rfl,?_⟩;refine AM h (fun v2=>⟨dd 5 (yi v2::dd 9 ([])),nn 15 ([])⟩) ?_ ?_
 ·intro _ h;refine AW h fun h=>?_;refine⟨_,rfl,?_⟩;exact AN h
 rintro v2 h;exact fin h
theorem AG {a0:JAI}{a1:Int}{r:Int×JAI}(h:AK a0 a1=some r):yC wl 25 [.ref 0 0,AV.d (D.i a1)] [.box (JAI.av a0)] (.d (D.i r.1)) [.box (JAI.av r.2)]:=by
 refine oK Tryz.f25 ⟨rfl,?_⟩;unfold AK at h;refine .inl (dO ?_);refine⟨a0.L.length,X10 _,?_⟩;refine cO ?_;refine goC ?_;refine AT h ?_ ?_<;>intro h
 ·exact fin h
 refine⟨_,rfl,?_⟩;refine .inl (dO ?_);refine⟨_,rfl,?_⟩;(conv=>whnf);refine Av h (fun _=>rfl) fun _ h=>?_;refine Ap h (fun _=>KC) (fun _=>rfl) fun _ h=>?_;refine cO ?_;exact fin h
theorem N6 {a0:Int}{r:Addr}(h:JC a0=some r):yC wl 42 [AV.d (D.i a0)] [] (.d (Addr.toD r)) []:=by
 refine oK Tryz.f42 ⟨rfl,?_⟩;unfold JC at h;refine⟨_,rfl,?_⟩;refine⟨_,Aw _,?_⟩;refine⟨_,Aw _,?_⟩;exact fin h
theorem PN {a0:Int}{r:Addr}(h:KJ a0=some r):yC wl 43 [AV.d (D.i a0)] [] (.d (Addr.toD r)) []:=by
 refine oK Tryz.f43 ⟨rfl,?_⟩;unfold KJ at h;refine⟨_,rfl,?_⟩;refine⟨_,Aw _,?_⟩;exact fin h
theorem Hn {a0:List JAD}{r:Bool}(h:DZ a0=some r):yC wl 75 [AV.d (D.l 2 JAD.toD a0)] [] (.d (D.b r)) []:=by
 refine oK Tryz.f75 ⟨rfl,?_⟩;unfold DZ at h;refine⟨a0.length,X10 _,?_⟩;refine AM h (fun v1=>⟨X::X::X::yi v1::dd 74 ([]),nn 78 ([])⟩) ?_ ?_
 ·intro _ h;revert h;refine Aa 8 2 JAD.toD rfl (fun i3 v4=>⟨y0 a0::X::X::yi v4::dd 4 (y0 a0::yi (a0.length:Int)::yi (i3:Int)::dd 67 ([])),nn 78 ([])⟩) ?_ ?_ ?_
  ·exact wk
  ·rintro v4 K5 h;refine goC ?_;refine BI CX ?_;exact AN h
  rintro _ i3 x7 v4 K5 b3 c3 e3 h p8;refine goC ?_;refine BB (CO b3) ?_;refine AM h (fun _=>⟨y0 a0::X::X::yi (AD (v4+(x7.ASNs.length:Int)))::dd 4 (y0 a0::yi (a0.length:Int)::yi (i3:Int)::dd 67 ([])),nn 78 ([])⟩) ?_ ?_
  ·intro _ h;refine⟨BD (f:=JAD.toD) b3,JAD.toD x7,c3,rfl,?_⟩;refine AM h (fun v10=>⟨y0 a0::X::X::yi v4::X::yr 5 0::X::X::y0 a0::yi (a0.length:Int)::yi (i3:Int)::dd 25 (yb v10::dd 41 ([])),nn 5 (yB (JAD.av x7)::nn 72 ([]))⟩) ?_ ?_
   ·intro _ h;refine⟨x7.ASNs.length,X10 _,?_⟩;refine An h fun h=>?_;refine AW h fun h=>?_;refine AW h fun h=>?_;refine⟨_,rfl,?_⟩;(conv=>whnf);refine Av h (fun _=>rfl) fun _ h=>?_;exact AN h
   rintro v10 h;refine goC ?_;refine AT h ?_ ?_<;>intro h
   ·exact fin h
   refine⟨x7.ASNs.length,X10 _,?_⟩;refine AM h (fun _=>⟨y0 a0::X::X::yi v4::X::yr 5 0::X::X::y0 a0::yi (a0.length:Int)::yi (i3:Int)::dd 67 ([]),nn 5 (yB (JAD.av x7)::nn 72 ([]))⟩) ?_ ?_
   ·intro _ h;revert h;refine Aa 38 1 D.i rfl (fun i15 _=>⟨y0 a0::X::X::yi v4::X::yr 5 0::X::X::y0 a0::yi (a0.length:Int)::yi (i3:Int)::dd 27 (AV.d (D.l 1 D.i x7.ASNs)::yi (x7.ASNs.length:Int)::yi (i15:Int)::dd 37 ([])),nn 5 (yB (JAD.av x7)::nn 72 ([]))⟩) ?_ ?_ ?_
    ·exact wk
    ·rintro _ K16 h;refine goC ?_;refine BI CX ?_;exact AN h
    rintro _ i15 x18 _ K16 b15 c15 e15 h p19;refine goC ?_;refine BB (CO b15) ?_;refine goC ?_;refine⟨BD (f:=D.i) b15,D.i x18,c15,rfl,?_⟩;refine AM h (fun v20=>⟨y0 a0::X::X::yi v4::X::yr 5 0::X::X::y0 a0::yi (a0.length:Int)::yi (i3:Int)::dd 27 (AV.d (D.l 1 D.i x7.ASNs)::yi (x7.ASNs.length:Int)::yi (i15:Int)::dd 27 (yb v20::dd 9 ([]))),nn 5 (yB (JAD.av x7)::nn 72 ([]))⟩) ?_ ?_
    ·intro _ h;refine An h fun h=>?_;refine An h fun h=>?_;refine AW h fun h=>?_;refine AW h fun h=>?_;refine⟨_,rfl,?_⟩;(conv=>whnf);refine Av h (fun _=>rfl) fun _ h=>?_;exact AN h
    rintro v20 h;refine goC ?_;refine AT h ?_ ?_<;>intro h
    ·exact fin h
    refine⟨_,e15,?_⟩;exact p19 _ _ wk h
   rintro _ h;refine⟨x7.ASNs.length,X10 _,?_⟩;refine⟨_,rfl,?_⟩;exact AN h
  rintro _ h;refine⟨_,e3,?_⟩;exact p8 _ _ wk h
 rintro v1 h;exact fin h
theorem On {a0:JAI}{r:Int×JAI}(h:FO a0=some r):yC wl 88 [.ref 0 0] [.box (JAI.av a0)] (.d (D.i r.1)) [.box (JAI.av r.2)]:=by
 refine oK Tryz.f88 ⟨rfl,?_⟩;unfold FO at h;refine AL h (fun _=>AG) ?_;rintro⟨_,_⟩ h;refine⟨_,rfl,?_⟩;refine AL h (fun _=>AG) ?_;rintro⟨_,_⟩ h;refine⟨_,rfl,?_⟩;refine AL h (fun _=>AG) ?_;rintro⟨_,_⟩ h;obtain⟨v10,g11,h⟩:=AH h;refine⟨rfl,BM (f:=D.i) g11,?_⟩;refine⟨rfl,D.i v10,(BW (f:=D.i) g11),?_⟩;exact fin h
theorem M7 {a0:JAI}{r:(List JAD)×JAI}(h:E3 a0=some r):yC wl 44 [.ref 0 0] [.box (JAI.av a0)] (.d (D.l 2 JAD.toD r.1)) [.box (JAI.av r.2)]:=by
 refine oK Tryz.f44 ⟨rfl,?_⟩;unfold E3 at h;refine AL h (fun _=>AG) ?_;rintro⟨_,_⟩ h;refine AM h (fun (v4,v5)=>⟨X::X::X::yO 4 JAD.toD v5::dd 106 ([]),yB (JAI.av v4)::N::N::N::yR 132 2 JAD.toD v5::nn 106 ([])⟩) ?_ ?_
 ·intro _ h;revert h;refine AZ (fun (v7,v8,v9)=>⟨yr 0 0::X::X::yO 4 JAD.toD v9::yi v7::dd 105 ([]),yB (JAI.av v8)::N::N::N::yR 132 2 JAD.toD v9::nn 106 ([])⟩) ?_ ?_
  ·exact wk
  rintro _ ⟨v7,v8,v9⟩ _ h p12;refine goC ?_;refine AW h fun h=>?_;refine AM h (fun (v13,v14)=>⟨yr 0 0::X::X::yO 109 JAD.toD v14::yi v7::dd 105 ([]),yB (JAI.av v13)::nn 108 (yR 132 2 JAD.toD v14::N::[])⟩) ?_ ?_
  ·intro _ h;refine AM h (fun (v16,v17)=>⟨yr 0 0::X::X::yO 4 JAD.toD v9::yi v7::yb v16::dd 104 ([]),yB (JAI.av v17)::N::N::N::yR 132 2 JAD.toD v9::nn 106 ([])⟩) ?_ ?_
   ·intro _ h;refine⟨v9.length,Bi,?_⟩;refine AT h ?_ ?_<;>intro h
    ·refine⟨v9.length,Bi,?_⟩;refine⟨_,rfl,?_⟩;obtain⟨v19,g20,h⟩:=AH h;refine⟨rfl,BM (f:=JAD.toD) g20,?_⟩;refine⟨rfl,?_⟩;refine⟨rfl,JAD.toD v19,(BW (f:=JAD.toD) g20),?_⟩;refine An h fun h=>?_;refine AL h (fun _=>AG) ?_;rintro⟨_,_⟩ h;exact AN h
    refine AL h (fun _=>AG) ?_;rintro⟨_,_⟩ h;exact AN h
   rintro⟨v16,v17⟩ h;refine AL h (fun _=>AG) ?_;rintro⟨_,_⟩ h;refine⟨_,rfl,?_⟩;refine AM h (fun (v30,v31)=>⟨yr 0 0::X::X::yO 4 JAD.toD v9::yi v7::X::yr 7 0::dd 103 ([]),W0 v16 v9 v31 v30⟩) ?_ ?_
   ·intro _ h;revert h;refine AZ (fun (v33,v34,v35)=>⟨yr 0 0::X::X::yO 4 JAD.toD v9::yi v7::yb v16::yr 7 0::yi v33::dd 102 ([]),W0 v16 v9 v35 v34⟩) ?_ ?_
    ·exact wk
    rintro _ ⟨v33,v34,v35⟩ _ h p38;refine goC ?_;refine AW h fun h=>?_;refine AM h (fun (v39,v40)=>⟨yr 0 0::X::X::yO 4 JAD.toD v9::yi v7::yb v16::yr 7 0::yi v33::dd 102 ([]),W0 v16 v9 v40 v39⟩) ?_ ?_
    ·intro _ h;refine AL h (fun _=>On) ?_;rintro⟨v42,v43⟩ h;refine goC ?_;refine AT h ?_ ?_<;>intro h
     ·refine⟨rfl,?_⟩;refine apO h rfl fun _ h=>?_;exact AN h
     refine AM h (fun v47=>⟨yr 0 0::X::X::yO 4 JAD.toD v9::yi v7::yb v16::yr 7 0::yi v33::yi v42::yi v47::dd 100 ([]),W0 v16 v9 v35 v43⟩) ?_ ?_
     ·intro _ h;revert h;refine AZ (fun v49=>⟨yr 0 0::X::X::yO 4 JAD.toD v9::yi v7::yb v16::yr 7 0::yi v33::yi v42::yi v49::dd 100 ([]),W0 v16 v9 v35 v43⟩) ?_ ?_
      ·exact wk
      rintro _ v49 _ h p52;refine AM h (fun v53=>⟨yr 0 0::X::X::yO 4 JAD.toD v9::yi v7::yb v16::yr 7 0::yi v33::yi v42::yi v49::dd 56 (yb v53::dd 43 ([])),W0 v16 v9 v35 v43⟩) ?_ ?_
      ·intro _ h;refine⟨v35.length,Bi,?_⟩;refine AW h fun h=>?_;obtain⟨v55,g56,h⟩:=AH h;refine⟨rfl,BM (f:=D.i) g56,?_⟩;refine⟨rfl,D.i v55,(BW (f:=D.i) g56),?_⟩;exact AN h
      rintro v53 h;refine goC ?_;refine AW h fun h=>?_;refine goC ?_;refine⟨_,rfl,?_⟩;exact p52 _ _ wk h
     rintro v47 h;refine AM h (fun v57=>⟨yr 0 0::X::X::yO 4 JAD.toD v9::yi v7::yb v16::yr 7 0::yi v33::yi v42::yi v47::dd 72 (yb v57::dd 27 ([])),W0 v16 v9 v35 v43⟩) ?_ ?_
     ·intro _ h;refine⟨v35.length,Bi,?_⟩;refine An h fun h=>?_;obtain⟨v59,g60,h⟩:=AH h;refine⟨rfl,BM (f:=D.i) g60,?_⟩;refine⟨rfl,D.i v59,(BW (f:=D.i) g60),?_⟩;exact AN h
     rintro v57 h;refine AM h (fun v61=>⟨yr 0 0::X::X::yO 4 JAD.toD v9::yi v7::yb v16::yr 7 0::yi v33::dd 102 ([]),yB (JAI.av v43)::N::N::N::yR 132 2 JAD.toD v9::N::N::yB [yb v16,yO 88 D.i v61]::nn 80 (yR 3 1 D.i v61::nn 22 ([]))⟩) ?_ ?_
     ·intro _ h;refine AT h ?_ ?_<;>intro h
      ·refine .inl (dO ?_);(conv=>whnf);refine .inr (.inl ?_);obtain⟨_,g63,h⟩:=AH h;have g169c:=Ce g63;refine⟨QV (f:=D.i) g63,rfl,(Int.toNat 0),(Int.toNat v47-Int.toNat 0),rfl,rfl,?_⟩;refine⟨Bi,List.map D.i (List.take (Int.toNat v47-Int.toNat 0) (List.drop (Int.toNat 0) v35)),KT,?_⟩;refine apN (f:=D.i) h fun _ h=>?_;refine⟨rfl,?_⟩;refine apO h rfl fun _ h=>?_;(conv=>whnf);refine .inr (.inl ?_);obtain⟨_,g67,h⟩:=AH h;have g175c:=Ce g67;refine⟨Gx (f:=D.i) g67,rfl,(Int.toNat v47),(Int.toNat (v35.length:Int)-Int.toNat v47),rfl,(by rw[X10]),?_⟩;refine⟨Bi,List.map D.i (List.take (Int.toNat (v35.length:Int)-Int.toNat v47) (List.drop (Int.toNat v47) v35)),KT,?_⟩;refine apO h rfl fun _ h=>?_;refine cO ?_;exact AN h
      exact BH (.swap 52 88 rfl rfl rfl wk) h
     rintro v61 h;exact BH (.swap 88 52 rfl rfl rfl wk) h
    rintro⟨v39,v40⟩ h;refine⟨_,rfl,?_⟩;exact p38 _ _ wk h
   rintro⟨v30,v31⟩ h;(conv=>whnf);refine .inl ?_;refine⟨rfl,?_⟩;refine⟨rfl,?_⟩;refine apO h rfl fun v70 h=>?_;refine⟨rfl,?_⟩;refine HS h (fun _=>Hn) fun _ h=>?_;refine AM h (fun v74=>⟨yr 0 0::X::X::yO 109 JAD.toD v74::yi v7::dd 105 ([]),yB (JAI.av v30)::nn 108 (yR 132 2 JAD.toD v74::N::[])⟩) ?_ ?_
   ·intro _ h;refine AT h ?_ ?_<;>intro h
    ·refine⟨v70.length,Bi,?_⟩;refine⟨_,rfl,?_⟩;(conv=>whnf);refine .inr (.inr ?_);obtain⟨v76,g77,h⟩:=AH h;refine⟨RU (f:=JAD.toD) g77,rfl,_,MJ (f:=JAD.toD) g77,?_⟩;exact AN h
    exact BH (.swap 4 109 rfl rfl rfl wk) h
   rintro v74 h;exact AN h
  rintro⟨v13,v14⟩ h;refine⟨_,rfl,?_⟩;exact p12 _ _ (.swap 109 4 rfl rfl rfl wk) h
 rintro⟨v4,v5⟩ h;(conv=>whnf);refine .inl ?_;(conv=>whnf);refine .inl ?_;refine⟨rfl,?_⟩;exact fin h
theorem LH {a0:JAB}{r:Bool}(h:EN a0=some r):yC wl 127 [AV.d (JAB.toD a0)] [] (.d (D.b r)) []:=by
 refine oK Tryz.f127 ⟨rfl,?_⟩;unfold EN at h;refine AM h (fun v1=>⟨X::X::yb v1::dd 18 ([]),nn 21 ([])⟩) ?_ ?_
 ·intro _ h;refine AW h fun h=>?_;refine AW h fun h=>?_;exact selC h
 rintro v1 h;exact fin h
theorem Lr {a0:JAB}{a1:JAB}{r:Bool}(h:EP a0 a1=some r):yC wl 128 [AV.d (JAB.toD a0),AV.d (JAB.toD a1)] [] (.d (D.b r)) []:=by
 refine oK Tryz.f128 ⟨rfl,?_⟩;unfold EP at h;refine AM h (fun v1=>⟨dd 4 (yb v1::dd 19 ([])),nn 24 ([])⟩) ?_ ?_
 ·intro _ h;refine An h fun h=>?_;exact selC h
 rintro v1 h;exact fin h
theorem Hy {a0:List JAB}{r:Bool}(h:E2 a0=some r):yC wl 77 [AV.d (D.l 2 JAB.toD a0)] [] (.d (D.b r)) []:=by
 refine oK Tryz.f77 ⟨rfl,?_⟩;unfold E2 at h;refine⟨a0.length,X10 _,?_⟩;refine AM h (fun _=>⟨y1 a0::dd 32 ([]),nn 33 ([])⟩) ?_ ?_
 ·intro _ h;revert h;refine Aa 5 2 JAB.toD rfl (fun i2 _=>⟨y1 a0::dd 4 (y1 a0::yi (a0.length:Int)::yi (i2:Int)::dd 25 ([])),nn 33 ([])⟩) ?_ ?_ ?_
  ·exact wk
  ·rintro _ K3 h;refine goC ?_;refine BI CX ?_;exact AN h
  rintro _ i2 x5 _ K3 b2 c2 e2 h p6;refine goC ?_;refine BB (CO b2) ?_;refine goC ?_;refine⟨BD (f:=JAB.toD) b2,JAB.toD x5,c2,rfl,?_⟩;refine AM h (fun v7=>⟨y1 a0::dd 4 (y1 a0::yi (a0.length:Int)::yi (i2:Int)::dd 20 (yb v7::dd 4 ([]))),nn 33 ([])⟩) ?_ ?_
  ·intro _ h;refine .inl (dO ?_);refine Ap h (fun _=>LH) (fun _=>rfl) fun _ h=>?_;refine AT h ?_ ?_<;>intro h
   ·refine cO ?_;exact AN h
   refine AT h ?_ ?_<;>intro h
   ·refine⟨_,rfl,?_⟩;(conv=>whnf);refine Av h (fun _=>rfl) fun _ h=>?_;refine Ap h (fun _=>Lr) (fun _=>rfl) fun _ h=>?_;refine cO ?_;exact AN h
   refine cO ?_;exact AN h
  rintro v7 h;refine goC ?_;refine AT h ?_ ?_<;>intro h
  ·exact fin h
  refine⟨_,e2,?_⟩;exact p6 _ _ wk h
 rintro _ h;refine⟨a0.length,X10 _,?_⟩;exact fin h
theorem Ur {a0:List JAB}{a1:JAB}{r:Bool}(h:Gh a0 a1=some r):yC wl 132 [AV.d (D.l 2 JAB.toD a0),AV.d (JAB.toD a1)] [] (.d (D.b r)) []:=by
 refine oK Tryz.f132 ⟨rfl,?_⟩;unfold Gh at h;refine⟨a0.length,X10 _,?_⟩;refine AM h (fun _=>⟨dd 17 ([]),nn 17 ([])⟩) ?_ ?_
 ·intro _ h;revert h;refine Aa 7 2 JAB.toD rfl (fun i2 _=>⟨X::X::X::yr 3 0::X::X::X::y1 a0::yi (a0.length:Int)::yi (i2:Int)::dd 7 ([]),N::N::N::yB (JAB.av a1)::nn 13 ([])⟩) ?_ ?_ ?_
  ·exact wk
  ·rintro _ K3 h;refine goC ?_;refine BI CX ?_;exact AN h
  rintro _ i2 x5 _ K3 b2 c2 e2 h p6;refine goC ?_;refine BB (CO b2) ?_;refine goC ?_;refine⟨BD (f:=JAB.toD) b2,JAB.toD x5,c2,rfl,?_⟩;refine goC ?_;refine AT h ?_ ?_<;>intro h
  ·exact fin h
  refine⟨_,e2,?_⟩;exact p6 _ _ wk h
 rintro _ h;exact fin h
theorem Jj {a0:List JAB}{a1:JAB}{r:(List JAB)×Int}(h:Ff a0 a1=some r):yC wl 89 [AV.d (D.l 2 JAB.toD a0),AV.d (JAB.toD a1)] [] (.tup [.d (D.l 2 JAB.toD r.1),.d (D.i r.2)]) []:=by
 refine oK Tryz.f89 ⟨rfl,?_⟩;unfold Ff at h;refine goC ?_;refine AM h (fun v1=>⟨y1 a0::X::X::yr 3 0::X::X::X::yb v1::dd 43 ([]),N::N::N::yB (JAB.av a1)::nn 47 ([])⟩) ?_ ?_
 ·intro _ h;refine AL h (fun _=>Hy) fun _ h=>?_;refine An h fun h=>?_;refine AL h (fun _=>LH) fun _ h=>?_;exact AN h
 rintro v1 h;refine goC ?_;refine AT h ?_ ?_<;>intro h
 ·(conv=>whnf);refine .inl ?_;refine⟨rfl,?_⟩;exact fin h
 refine AL h (fun _=>Ur) fun _ h=>?_;refine goC ?_;refine AT h ?_ ?_<;>intro h
 ·refine apN (f:=JAB.toD) h fun _ h=>?_;(conv=>whnf);refine .inl ?_;refine⟨rfl,?_⟩;exact fin h
 refine⟨a0.length,X10 _,?_⟩;refine goC ?_;refine AT h ?_ ?_<;>intro h
 ·(conv=>whnf);refine .inl ?_;refine⟨rfl,?_⟩;exact fin h
 refine AM h (fun v10=>⟨y1 a0::X::X::yr 3 0::X::X::yi v10::dd 44 ([]),N::N::N::yB (JAB.av a1)::nn 47 ([])⟩) ?_ ?_
 ·intro _ h;revert h;refine AZ (fun v12=>⟨y1 a0::X::X::yr 3 0::X::X::yi v12::dd 44 ([]),N::N::N::yB (JAB.av a1)::nn 47 ([])⟩) ?_ ?_
  ·exact wk
  rintro _ v12 _ h p15;refine AM h (fun v16=>⟨y1 a0::X::X::yr 3 0::X::X::yi v12::dd 30 (yb v16::dd 13 ([])),N::N::N::yB (JAB.av a1)::nn 47 ([])⟩) ?_ ?_
  ·intro _ h;refine .inl (dO ?_);refine⟨a0.length,X10 _,?_⟩;refine AT h ?_ ?_<;>intro h
   ·(conv=>whnf);refine Av h (fun _=>rfl) fun _ h=>?_;refine Ap h (fun _=>Lr) (fun _=>rfl) fun _ h=>?_;refine cO ?_;exact AN h
   refine cO ?_;exact AN h
  rintro v16 h;refine goC ?_;refine AW h fun h=>?_;refine goC ?_;refine⟨_,rfl,?_⟩;exact p15 _ _ wk h
 rintro v10 h;refine .inl (dO ?_);(conv=>whnf);refine Eb (f:=JAB.toD) h fun _ h=>?_;refine apN (f:=JAB.toD) h fun _ h=>?_;refine⟨rfl,?_⟩;refine apO h rfl fun _ h=>?_;(conv=>whnf);refine Hu (f:=JAB.toD) h fun _ h=>?_;refine apO h rfl fun _ h=>?_;refine cO ?_;(conv=>whnf);refine .inl ?_;refine⟨rfl,?_⟩;exact fin h
theorem HN {a0:JAF}{r:Bool}(h:CU a0=some r):yC wl 129 [AV.d (JAF.toD a0)] [] (.d (D.b r)) []:=by
 refine oK Tryz.f129 ⟨rfl,?_⟩;unfold CU at h;refine AM h (fun v1=>⟨X::X::yb v1::dd 28 ([]),nn 31 ([])⟩) ?_ ?_
 ·intro _ h;refine AW h fun h=>?_;refine AW h fun h=>?_;refine AW h fun h=>?_;refine AW h fun h=>?_;exact selC h
 rintro v1 h;exact fin h
theorem Ha {a0:JAF}{a1:JAF}{r:Bool}(h:CL a0 a1=some r):yC wl 130 [AV.d (JAF.toD a0),AV.d (JAF.toD a1)] [] (.d (D.b r)) []:=by
 refine oK Tryz.f130 ⟨rfl,?_⟩;unfold CL at h;refine AM h (fun v1=>⟨dd 4 (yb v1::dd 33 ([])),nn 38 ([])⟩) ?_ ?_
 ·intro _ h;refine An h fun h=>?_;refine AW h fun h=>?_;refine An h fun h=>?_;exact selC h
 rintro v1 h;exact fin h
theorem FH {a0:List JAF}{r:Bool}(h:C2 a0=some r):yC wl 78 [AV.d (D.l 3 JAF.toD a0)] [] (.d (D.b r)) []:=by
 refine oK Tryz.f78 ⟨rfl,?_⟩;unfold C2 at h;refine⟨a0.length,X10 _,?_⟩;refine AM h (fun _=>⟨y2 a0::dd 32 ([]),nn 33 ([])⟩) ?_ ?_
 ·intro _ h;revert h;refine Aa 5 3 JAF.toD rfl (fun i2 _=>⟨y2 a0::dd 4 (y2 a0::yi (a0.length:Int)::yi (i2:Int)::dd 25 ([])),nn 33 ([])⟩) ?_ ?_ ?_
  ·exact wk
  ·rintro _ K3 h;refine goC ?_;refine BI CX ?_;exact AN h
  rintro _ i2 x5 _ K3 b2 c2 e2 h p6;refine goC ?_;refine BB (CO b2) ?_;refine goC ?_;refine⟨BD (f:=JAF.toD) b2,JAF.toD x5,c2,rfl,?_⟩;refine AM h (fun v7=>⟨y2 a0::dd 4 (y2 a0::yi (a0.length:Int)::yi (i2:Int)::dd 20 (yb v7::dd 4 ([]))),nn 33 ([])⟩) ?_ ?_
  ·intro _ h;refine .inl (dO ?_);refine Ap h (fun _=>HN) (fun _=>rfl) fun _ h=>?_;refine AT h ?_ ?_<;>intro h
   ·refine cO ?_;exact AN h
   refine AT h ?_ ?_<;>intro h
   ·refine⟨_,rfl,?_⟩;(conv=>whnf);refine Av h (fun _=>rfl) fun _ h=>?_;refine Ap h (fun _=>Ha) (fun _=>rfl) fun _ h=>?_;refine cO ?_;exact AN h
   refine cO ?_;exact AN h
  rintro v7 h;refine goC ?_;refine AT h ?_ ?_<;>intro h
  ·exact fin h
  refine⟨_,e2,?_⟩;exact p6 _ _ wk h
 rintro _ h;refine⟨a0.length,X10 _,?_⟩;exact fin h
theorem NZ {a0:List JAF}{a1:JAF}{r:Bool}(h:Dq a0 a1=some r):yC wl 133 [AV.d (D.l 3 JAF.toD a0),AV.d (JAF.toD a1)] [] (.d (D.b r)) []:=by
 refine oK Tryz.f133 ⟨rfl,?_⟩;unfold Dq at h;refine⟨a0.length,X10 _,?_⟩;refine AM h (fun _=>⟨dd 17 ([]),nn 17 ([])⟩) ?_ ?_
 ·intro _ h;revert h;refine Aa 7 3 JAF.toD rfl (fun i2 _=>⟨X::X::X::yr 3 0::X::X::X::y2 a0::yi (a0.length:Int)::yi (i2:Int)::dd 7 ([]),N::N::N::yB (JAF.av a1)::nn 13 ([])⟩) ?_ ?_ ?_
  ·exact wk
  ·rintro _ K3 h;refine goC ?_;refine BI CX ?_;exact AN h
  rintro _ i2 x5 _ K3 b2 c2 e2 h p6;refine goC ?_;refine BB (CO b2) ?_;refine goC ?_;refine⟨BD (f:=JAF.toD) b2,JAF.toD x5,c2,rfl,?_⟩;refine goC ?_;refine AT h ?_ ?_<;>intro h
  ·exact fin h
  refine⟨_,e2,?_⟩;exact p6 _ _ wk h
 rintro _ h;exact fin h
theorem GG {a0:List JAF}{a1:JAF}{r:(List JAF)×Int}(h:DJ a0 a1=some r):yC wl 90 [AV.d (D.l 3 JAF.toD a0),AV.d (JAF.toD a1)] [] (.tup [.d (D.l 3 JAF.toD r.1),.d (D.i r.2)]) []:=by
 refine oK Tryz.f90 ⟨rfl,?_⟩;unfold DJ at h;refine goC ?_;refine AM h (fun v1=>⟨y2 a0::X::X::yr 3 0::X::X::X::yb v1::dd 43 ([]),N::N::N::yB (JAF.av a1)::nn 47 ([])⟩) ?_ ?_
 ·intro _ h;refine AL h (fun _=>FH) fun _ h=>?_;refine An h fun h=>?_;refine AL h (fun _=>HN) fun _ h=>?_;exact AN h
 rintro v1 h;refine goC ?_;refine AT h ?_ ?_<;>intro h
 ·(conv=>whnf);refine .inl ?_;refine⟨rfl,?_⟩;exact fin h
 refine AL h (fun _=>NZ) fun _ h=>?_;refine goC ?_;refine AT h ?_ ?_<;>intro h
 ·refine apN (f:=JAF.toD) h fun _ h=>?_;(conv=>whnf);refine .inl ?_;refine⟨rfl,?_⟩;exact fin h
 refine⟨a0.length,X10 _,?_⟩;refine goC ?_;refine AT h ?_ ?_<;>intro h
 ·(conv=>whnf);refine .inl ?_;refine⟨rfl,?_⟩;exact fin h
 refine AM h (fun v10=>⟨y2 a0::X::X::yr 3 0::X::X::yi v10::dd 44 ([]),N::N::N::yB (JAF.av a1)::nn 47 ([])⟩) ?_ ?_
 ·intro _ h;revert h;refine AZ (fun v12=>⟨y2 a0::X::X::yr 3 0::X::X::yi v12::dd 44 ([]),N::N::N::yB (JAF.av a1)::nn 47 ([])⟩) ?_ ?_
  ·exact wk
  rintro _ v12 _ h p15;refine AM h (fun v16=>⟨y2 a0::X::X::yr 3 0::X::X::yi v12::dd 30 (yb v16::dd 13 ([])),N::N::N::yB (JAF.av a1)::nn 47 ([])⟩) ?_ ?_
  ·intro _ h;refine .inl (dO ?_);refine⟨a0.length,X10 _,?_⟩;refine AT h ?_ ?_<;>intro h
   ·(conv=>whnf);refine Av h (fun _=>rfl) fun _ h=>?_;refine Ap h (fun _=>Ha) (fun _=>rfl) fun _ h=>?_;refine cO ?_;exact AN h
   refine cO ?_;exact AN h
  rintro v16 h;refine goC ?_;refine AW h fun h=>?_;refine goC ?_;refine⟨_,rfl,?_⟩;exact p15 _ _ wk h
 rintro v10 h;refine .inl (dO ?_);(conv=>whnf);refine Eb (f:=JAF.toD) h fun _ h=>?_;refine apN (f:=JAF.toD) h fun _ h=>?_;refine⟨rfl,?_⟩;refine apO h rfl fun _ h=>?_;(conv=>whnf);refine Hu (f:=JAF.toD) h fun _ h=>?_;refine apO h rfl fun _ h=>?_;refine cO ?_;(conv=>whnf);refine .inl ?_;refine⟨rfl,?_⟩;exact fin h
theorem Ib {a0:JAI}{r:(List JAB)×(List JAF)×JAI}(h:C0 a0=some r):yC wl 45 [.ref 0 0] [.box (JAI.av a0)] (.tup [.d (D.l 2 JAB.toD r.1),.d (D.l 3 JAF.toD r.2.1)]) [.box (JAI.av r.2.2)]:=by
 refine oK Tryz.f45 ⟨rfl,?_⟩;unfold C0 at h;refine AL h (fun _=>AG) ?_;rintro⟨_,_⟩ h;refine AM h (fun (v4,v5)=>⟨yr 0 0::X::X::X::y1 v4::AV.own 6 (List.map JAF.toD []).length::dd 50 ([]),yB (JAI.av v5)::nn 5 (some (OB.row 141 3 (List.map JAF.toD []) .no)::nn 50 ([]))⟩) ?_ ?_
 ·intro _ h;revert h;refine AZ (fun (v7,v8,v9)=>⟨yr 0 0::X::X::X::y1 v7::AV.own 6 (List.map JAF.toD []).length::yi v8::dd 49 ([]),yB (JAI.av v9)::nn 5 (some (OB.row 141 3 (List.map JAF.toD []) .no)::nn 50 ([]))⟩) ?_ ?_
  ·exact wk
  rintro _ ⟨v7,v8,v9⟩ _ h p12;refine goC ?_;refine AW h fun h=>?_;refine goC ?_;refine .inl (dO ?_);refine Ap h (fun _=>AG) (fun _=>rfl) ?_;rintro⟨_,_⟩ h;obtain⟨v16,g17,h⟩:=AH h;refine⟨rfl,BM (f:=D.i) g17,?_⟩;refine⟨rfl,D.i v16,(BW (f:=D.i) g17),?_⟩;refine Ap h (fun _=>AG) (fun _=>rfl) ?_;rintro⟨_,_⟩ h;refine⟨_,rfl,?_⟩;refine Ap h (fun _=>AG) (fun _=>rfl) ?_;rintro⟨_,_⟩ h;obtain⟨v24,g25,h⟩:=AH h;refine⟨rfl,BM (f:=D.i) g25,?_⟩;refine⟨rfl,D.i v24,(BW (f:=D.i) g25),?_⟩;refine Ap h (fun _=>Jj) (fun _=>rfl) ?_;rintro⟨_,_⟩ h;refine cO ?_;refine⟨_,rfl,?_⟩;exact p12 _ _ wk h
 rintro⟨v4,v5⟩ h;refine AL h (fun _=>AG) ?_;rintro⟨_,_⟩ h;refine AM h (fun (v32,v33)=>⟨dd 4 (y1 v4::y2 v32::dd 50 ([])),yB (JAI.av v33)::nn 56 ([])⟩) ?_ ?_
 ·intro _ h;revert h;refine AZ (fun (v35,v36,v37)=>⟨yr 0 0::X::X::X::y1 v4::y2 v35::X::yi v36::dd 48 ([]),yB (JAI.av v37)::nn 56 ([])⟩) ?_ ?_
  ·exact wk
  rintro _ ⟨v35,v36,v37⟩ _ h p40;refine goC ?_;refine AW h fun h=>?_;refine goC ?_;refine .inl (dO ?_);refine Ap h (fun _=>AG) (fun _=>rfl) ?_;rintro⟨_,_⟩ h;obtain⟨v44,g45,h⟩:=AH h;refine⟨rfl,BM (f:=D.i) g45,?_⟩;refine⟨rfl,D.i v44,(BW (f:=D.i) g45),?_⟩;refine Ap h (fun _=>AG) (fun _=>rfl) ?_;rintro⟨_,_⟩ h;refine Ap h (fun _=>AG) (fun _=>rfl) ?_;rintro⟨_,_⟩ h;refine Ap h (fun _=>GG) (fun _=>rfl) ?_;rintro⟨_,_⟩ h;refine cO ?_;refine⟨_,rfl,?_⟩;exact p40 _ _ wk h
 rintro⟨v32,v33⟩ h;exact fin h
theorem MW {a0:JAI}{a1:Int}{r:(List UInt8)×JAI}(h:EW a0 a1=some r):yC wl 46 [.ref 0 0,AV.d (D.i a1)] [.box (JAI.av a0)] (.d (D.l 1 D.u8 r.1)) [.box (JAI.av r.2)]:=by
 refine oK Tryz.f46 ⟨rfl,?_⟩;unfold EW at h;refine⟨_,rfl,?_⟩;refine AL h (fun _=>AG) ?_;rintro⟨_,_⟩ h;refine AM h (fun (v4,v5)=>⟨dd 5 (yO 6 D.u8 v5::dd 16 ([])),yB (JAI.av v4)::nn 5 (yR 5 1 D.u8 v5::nn 16 ([]))⟩) ?_ ?_
 ·intro _ h;revert h;refine AZ (fun (v7,v8,v9)=>⟨yr 0 0::dd 4 (yO 6 D.u8 v9::yi v7::dd 15 ([])),yB (JAI.av v8)::nn 5 (yR 5 1 D.u8 v9::nn 16 ([]))⟩) ?_ ?_
  ·exact wk
  rintro _ ⟨v7,v8,v9⟩ _ h p12;refine goC ?_;refine AW h fun h=>?_;refine goC ?_;refine AL h (fun _=>AG) ?_;rintro⟨_,_⟩ h;refine⟨_,Ae _,?_⟩;refine⟨rfl,?_⟩;refine apO h rfl fun _ h=>?_;refine⟨_,rfl,?_⟩;exact p12 _ _ wk h
 rintro⟨v4,v5⟩ h;(conv=>whnf);refine .inl ?_;(conv=>whnf);refine .inl ?_;refine⟨rfl,?_⟩;exact fin h
theorem Hh {a0:JAI}{r:JAE×JAI}(h:Dx a0=some r):yC wl 15 [.ref 0 0] [.box (JAI.av a0)] (.d (JAE.toD r.1)) [.box (JAI.av r.2)]:=by
 refine oKx 2 Tryz.f15 ⟨rfl,?_⟩;unfold Dx at h;refine AM h (fun _=>⟨yr 0 0::X::yr 3 0::dd 4 (AV.d (D.agg [D.i (-1),D.nil 2,D.b false,D.u64 (0:UInt64),D.u64 (0:UInt64),D.i (-1),D.i (-1),D.i (-1),D.nil 2,D.nil 3,D.nil 3])::dd 62 ([])),yB (JAI.av a0)::N::N::yB JAE.zv::nn 69 ([])⟩) ?_ ?_
 ·intro _ h;(conv=>whnf);refine inl Tryz.f17 71 (by kernel_rfl) (by kernel_rfl) ⟨rfl,?_⟩;exact AN h
 rintro _ h;refine AL h (fun _=>AG) ?_;rintro⟨v2,_⟩ h;refine⟨_,rfl,?_⟩;refine AL h (fun _=>M7) ?_;rintro⟨v5,_⟩ h;refine AL h (fun _=>N6) fun _ h=>?_;refine AL h (fun _=>PN) fun _ h=>?_;refine AL h (fun _=>AG) ?_;rintro⟨_,_⟩ h;obtain⟨v15,g16,h⟩:=AH h;refine⟨rfl,BM (f:=Addr.toD) g16,?_⟩;refine⟨rfl,Addr.toD v15,(BW (f:=Addr.toD) g16),?_⟩;refine .inl (dO ?_);refine Ap h (fun _=>AG) (fun _=>rfl) ?_;rintro⟨_,_⟩ h;obtain⟨v20,g21,h⟩:=AH h;refine⟨rfl,BM (f:=D.i) g21,?_⟩;refine⟨rfl,D.i v20,(BW (f:=D.i) g21),?_⟩;refine Ap h (fun _=>AG) (fun _=>rfl) ?_;rintro⟨_,_⟩ h;obtain⟨v25,g26,h⟩:=AH h;refine⟨rfl,BM (f:=D.i) g26,?_⟩;refine⟨rfl,D.i v25,(BW (f:=D.i) g26),?_⟩;refine cO ?_;refine AL h (fun _=>AG) ?_;rintro⟨_,_⟩ h;obtain⟨v30,g31,h⟩:=AH h;refine⟨rfl,BM (f:=D.i) g31,?_⟩;refine⟨rfl,D.i v30,(BW (f:=D.i) g31),?_⟩;refine AL h (fun _=>Ib) ?_;rintro⟨v32,v33,_⟩ h;refine⟨([6,7,16,34,200,255]:List Int).length,Bi,?_⟩;refine AM h (fun (v36,v37)=>⟨X::X::yr 3 0::yr 4 0::dd 66 ([]),yB (JAI.av v36)::N::N::yB JAE.zv::yB [yi (AD (v2-1)),y0 v5,AV.d (D.b v15.V6),AV.d (D.u64 v15.Hi),AV.d (D.u64 v15.Lo),yi v20,yi v25,yi v30,y1 v32,y2 v33,yO 67 JAA.toD v37]::nn 62 (yR 88 3 JAA.toD v37::nn 5 ([]))⟩) ?_ ?_
 ·intro _ h;revert h;refine Nh 51 3 1 .no D.i rfl (fun i39 (v40,v41)=>⟨fC (([6,7,16,34,200,255]:List Int).length:Int) (i39:Int) ([6,7,16,34,200,255]:List Int),eF (AD (v2-1)) v20 v25 v30 v5 v32 v33 v41 ([6,7,16,34,200,255]:List Int) v15.V6 v15.Hi v15.Lo v40⟩) ?_ ?_ ?_
  ·exact wk
  ·rintro⟨v40,v41⟩ K42 h;refine goC ?_;exact AN h
  rintro _ i39 x44 ⟨v40,v41⟩ K42 b39 c39 e39 h p45;refine goC ?_;refine BB (CO b39) ?_;refine goC ?_;refine⟨rfl,BD (f:=D.i) b39,?_⟩;refine⟨rfl,D.i x44,c39,?_⟩;refine AL h (fun _=>AG) ?_;rintro⟨_,_⟩ h;refine AM h (fun (v49,v50)=>⟨fC (([6,7,16,34,200,255]:List Int).length:Int) (i39:Int) ([6,7,16,34,200,255]:List Int),eF (AD (v2-1)) v20 v25 v30 v5 v32 v33 v50 ([6,7,16,34,200,255]:List Int) v15.V6 v15.Hi v15.Lo v49⟩) ?_ ?_
  ·intro _ h;refine AW h fun h=>?_;refine .inl (dO ?_);refine Ap h (fun _=>MW) (fun _=>rfl) ?_;rintro⟨_,_⟩ h;refine⟨rfl,?_⟩;refine apO h rfl fun _ h=>?_;refine cO ?_;exact AN h
  rintro⟨v49,v50⟩ h;refine⟨_,e39,?_⟩;exact p45 _ _ wk h
 rintro⟨v36,v37⟩ h;(conv=>whnf);refine .inl ?_;refine⟨rfl,?_⟩;exact fin h
theorem NG {a0:JAI}{r:Addr×JAI}(h:En a0=some r):yC wl 47 [.ref 0 0] [.box (JAI.av a0)] (.d (Addr.toD r.1)) [.box (JAI.av r.2)]:=by
 refine oK Tryz.f47 ⟨rfl,?_⟩;unfold En at h;refine AL h (fun _=>AG) ?_;rintro⟨_,_⟩ h;refine goC ?_;refine goC ?_;refine AT h ?_ ?_<;>intro h
 ·refine AL h (fun _=>AG) ?_;rintro⟨_,_⟩ h;refine⟨by decide,_,rfl,?_⟩;refine⟨_,rfl,?_⟩;refine AL h (fun _=>AG) ?_;rintro⟨_,_⟩ h;refine⟨_,rfl,?_⟩;refine⟨_,Aw _,?_⟩;exact fin h
 refine goC ?_;refine AT h ?_ ?_<;>intro h
 ·refine AL h (fun _=>AG) ?_;rintro⟨_,_⟩ h;refine⟨_,Aw _,?_⟩;refine⟨_,Aw _,?_⟩;refine AL h (fun _=>AG) ?_;rintro⟨_,_⟩ h;refine⟨_,Aw _,?_⟩;exact fin h
 refine goC ?_;refine AT h ?_ ?_<;>intro h
 ·refine AL h (fun _=>AG) ?_;rintro⟨_,_⟩ h;obtain⟨v19,g20,h⟩:=AH h;refine⟨rfl,BM (f:=D.u64) g20,?_⟩;refine⟨rfl,D.u64 v19,(BW (f:=D.u64) g20),?_⟩;exact fin h
 refine goC ?_;refine AT h ?_ ?_<;>intro h
 ·refine .inl (dO ?_);refine Ap h (fun _=>AG) (fun _=>rfl) ?_;rintro⟨_,_⟩ h;obtain⟨v24,g25,h⟩:=AH h;refine⟨rfl,BM (f:=D.u64) g25,?_⟩;refine⟨rfl,D.u64 v24,(BW (f:=D.u64) g25),?_⟩;refine Ap h (fun _=>AG) (fun _=>rfl) ?_;rintro⟨_,_⟩ h;obtain⟨v29,g30,h⟩:=AH h;refine⟨rfl,BM (f:=D.u64) g30,?_⟩;refine⟨rfl,D.u64 v29,(BW (f:=D.u64) g30),?_⟩;refine cO ?_;exact fin h
 refine goC ?_;refine AT h ?_ ?_<;>intro h
 ·refine AL h (fun _=>AG) ?_;rintro⟨_,_⟩ h;refine⟨_,Aw _,?_⟩;refine AL h (fun _=>AG) ?_;rintro⟨_,_⟩ h;refine⟨_,rfl,?_⟩;refine⟨_,Aw _,?_⟩;refine⟨Int.natCast_nonneg _,_,Aw _,?_⟩;refine AL h (fun _=>AG) ?_;rintro⟨_,_⟩ h;refine⟨_,Aw _,?_⟩;refine AL h (fun _=>AG) ?_;rintro⟨_,_⟩ h;refine⟨_,rfl,?_⟩;refine⟨_,Aw _,?_⟩;refine⟨Int.natCast_nonneg _,_,Aw _,?_⟩;exact fin h
 refine AL h (fun _=>AG) ?_;rintro⟨_,_⟩ h;refine⟨_,Aw _,?_⟩;exact fin h
theorem Hg {a0:Addr}{r:Bool}(h:EA a0=some r):yC wl 76 [AV.d (Addr.toD a0)] [] (.d (D.b r)) []:=by
 refine oK Tryz.f76 ⟨rfl,?_⟩;unfold EA at h;refine AM h (fun v1=>⟨X::X::yb v1::dd 12 ([]),nn 15 ([])⟩) ?_ ?_
 ·intro _ h;refine An h fun h=>?_;exact selC h
 rintro v1 h;exact fin h
theorem RP {a0:Addr}{r:Int}(h:D8 a0=some r):yC wl 91 [AV.d (Addr.toD a0)] [] (.d (D.i r)) []:=by
 refine oK Tryz.f91 ⟨rfl,?_⟩;unfold D8 at h;refine goC ?_;refine AT h ?_ ?_<;>intro h
 ·exact fin h
 exact fin h
theorem F7 {a0:Addr}{r:(List UInt8)}(h:Bn a0=some r):yC wl 92 [AV.d (Addr.toD a0)] [] (AV.own 0 (List.map D.u8 r).length) [.row 5 1 (List.map D.u8 r) .no]:=by
 refine oK Tryz.f92 ⟨rfl,?_⟩;unfold Bn at h;refine AL h (fun _=>Hg) fun _ h=>?_;refine goC ?_;refine AT h ?_ ?_<;>intro h
 ·(conv=>whnf);refine .inr ⟨X29 rfl,5,?_⟩;exact fin h
 refine AM h (fun v3=>⟨X::yr 1 0::X::yi v3::dd 31 ([]),N::yB (Addr.av a0)::nn 33 ([])⟩) ?_ ?_
 ·intro _ h;exact selC h
 rintro v3 h;refine⟨_,rfl,?_⟩;refine AM h (fun v5=>⟨dd 4 (yO 4 D.u8 v5::dd 30 ([])),nn 4 (yR 5 1 D.u8 v5::nn 30 ([]))⟩) ?_ ?_
 ·intro _ h;revert h;refine AZ (fun (v7,v8)=>⟨X::yr 1 0::X::X::yO 4 D.u8 v8::yi v7::dd 29 ([]),N::yB (Addr.av a0)::N::N::yR 5 1 D.u8 v8::nn 30 ([])⟩) ?_ ?_
  ·exact wk
  rintro _ ⟨v7,v8⟩ _ h p11;refine goC ?_;refine AW h fun h=>?_;refine goC ?_;refine AM h (fun v12=>⟨X::yr 1 0::X::X::yO 4 D.u8 v8::yi v7::yu v12::dd 28 ([]),N::yB (Addr.av a0)::N::N::yR 5 1 D.u8 v8::nn 30 ([])⟩) ?_ ?_
  ·intro _ h;exact selC h
  rintro v12 h;refine⟨by decide,_,rfl,?_⟩;refine⟨_,Aw _,?_⟩;refine⟨_,Aw _,?_⟩;refine⟨Int.natCast_nonneg _,_,N4 v12 _,?_⟩;refine⟨_,Ae _,?_⟩;refine⟨rfl,?_⟩;refine apO h rfl fun _ h=>?_;refine⟨_,rfl,?_⟩;exact p11 _ _ wk h
 rintro v5 h;(conv=>whnf);refine .inl ?_;(conv=>whnf);refine .inr ?_;exact fin h
theorem Bq {a0:List UInt8}{r:Addr×Int}(h:A5 a0=some r):yC wl 93 [AV.d (D.l 1 D.u8 a0)] [] (.tup [.d (Addr.toD r.1),.d (D.i r.2)]) []:=by
 refine oK Tryz.f93 ⟨rfl,?_⟩;unfold A5 at h;refine AM h (fun v1=>⟨y3 a0::X::yr 2 0::dd 11 (yb v1::dd 28 ([])),N::N::yB Addr.zv::nn 40 ([])⟩) ?_ ?_
 ·intro _ h;refine⟨a0.length,X10 _,?_⟩;refine AW h fun h=>?_;refine⟨a0.length,X10 _,?_⟩;exact AN h
 rintro v1 h;refine goC ?_;refine AT h ?_ ?_<;>intro h
 ·exact fin h
 refine⟨a0.length,X10 _,?_⟩;refine⟨a0.length,X10 _,?_⟩;refine AM h (fun v3=>⟨X::X::yr 2 0::X::yr 4 0::dd 38 ([]),bk v3⟩) ?_ ?_
 ·intro _ h;revert h;refine Aa 20 1 D.u8 rfl (fun i5 v6=>⟨X::X::yr 2 0::X::yr 4 0::dd 15 (y3 a0::yi (a0.length:Int)::yi (i5:Int)::dd 20 ([])),bk v6⟩) ?_ ?_ ?_
  ·exact wk
  ·rintro v6 K7 h;refine goC ?_;refine BI CX ?_;exact AN h
  rintro _ i5 x9 v6 K7 b5 c5 e5 h p10;refine goC ?_;refine BB (CO b5) ?_;refine goC ?_;refine⟨BD (f:=D.u8) b5,D.u8 x9,c5,rfl,?_⟩;refine⟨by decide,_,Aw _,?_⟩;refine⟨by decide,_,N4 v6.Lo _,?_⟩;refine⟨_,Aw _,?_⟩;refine⟨by decide,_,Aw _,?_⟩;refine⟨_,Aw _,?_⟩;refine⟨_,Aw _,?_⟩;refine⟨_,e5,?_⟩;exact p10 _ _ wk h
 rintro v3 h;exact fin h
theorem EX {a0:Addr}{a1:Int}{r:JAC×Int}(h:B1 a0 a1=some r):yC wl 48 [AV.d (Addr.toD a0),AV.d (D.i a1)] [] (.tup [.d (JAC.toD r.1),.d (D.i r.2)]) []:=by
 refine oK Tryz.f48 ⟨rfl,?_⟩;unfold B1 at h;refine goC ?_;refine AL h (fun _=>Hg) fun _ h=>?_;refine goC ?_;refine AT h ?_ ?_<;>intro h
 ·exact fin h
 refine AM h (fun v3=>⟨X::yi a1::yr 2 0::X::yr 4 0::dd 10 (yb v3::dd 38 ([])),N::N::yB (Addr.av a0)::N::yB JAC.zv::nn 49 ([])⟩) ?_ ?_
 ·intro _ h;refine An h fun h=>?_;refine AL h (fun _=>RP) fun _ h=>?_;exact AN h
 rintro v3 h;refine goC ?_;refine AT h ?_ ?_<;>intro h
 ·exact fin h
 refine PU [26] h (fun _=>F7) fun _ h=>?_;refine AM h (fun v9=>⟨X::yi a1::X::X::yr 4 0::X::yO 26 D.u8 v9::dd 47 ([]),nn 4 (yB JAC.zv::nn 21 (yR 5 1 D.u8 v9::nn 27 ([])))⟩) ?_ ?_
 ·intro _ h;revert h;refine AZ (fun (v11,v12)=>⟨X::yi a1::X::X::yr 4 0::X::yO 26 D.u8 v12::yi v11::dd 46 ([]),nn 4 (yB JAC.zv::nn 21 (yR 5 1 D.u8 v12::nn 27 ([])))⟩) ?_ ?_
  ·exact wk
  rintro _ ⟨v11,v12⟩ _ h p15;refine⟨v12.length,Bi,?_⟩;refine⟨_,rfl,?_⟩;refine goC ?_;refine AW h fun h=>?_;refine goC ?_;refine⟨by decide,_,rfl,?_⟩;obtain⟨v16,g17,h⟩:=AH h;refine⟨rfl,BM (f:=D.u8) g17,?_⟩;refine⟨rfl,D.u8 v16,(BW (f:=D.u8) g17),?_⟩;refine⟨by decide,_,rfl,?_⟩;refine⟨_,Aw _,?_⟩;refine⟨Int.natCast_nonneg _,_,dn (128:UInt8) _,?_⟩;refine⟨_,Ae _,?_⟩;obtain⟨v18,g19,h⟩:=AH h;refine⟨rfl,BM (f:=D.u8) g19,?_⟩;obtain⟨v20,g21,h⟩:=AH h;have g21l:=G8 g21;refine⟨rfl,rfl,D.u8 v18,(BW (f:=D.u8) g19),?_⟩;refine⟨_,KE (f:=D.u8) g21,?_⟩;refine⟨_,rfl,?_⟩;exact p15 _ _ wk h
 rintro v9 h;refine⟨rfl,?_⟩;refine HS h (fun _=>Bq) ?_;rintro⟨_,_⟩ h;exact fin h
theorem HT {a0:JAI}{r:JAC×JAI}(h:Da a0=some r):yC wl 16 [.ref 0 0] [.box (JAI.av a0)] (.d (JAC.toD r.1)) [.box (JAI.av r.2)]:=by
 refine oK Tryz.f16 ⟨rfl,?_⟩;unfold Da at h;refine AL h (fun _=>NG) ?_;rintro⟨v1,v2⟩ h;refine AM h (fun v4=>⟨yr 0 0::X::yr 3 0::yr 4 0::yi v4::dd 34 ([]),bw v2 v1⟩) ?_ ?_
 ·intro _ h;exact selC h
 rintro v4 h;refine AL h (fun _=>AG) ?_;rintro⟨_,_⟩ h;refine goC ?_;refine AM h (fun (v9,v10)=>⟨X::X::yr 3 0::yr 4 0::yi v9::dd 34 ([]),bw v10 v1⟩) ?_ ?_
 ·intro _ h;refine AT h ?_ ?_<;>intro h
  ·refine⟨_,rfl,?_⟩;refine AL h (fun _=>AG) ?_;rintro⟨_,_⟩ h;exact AN h
  refine AM h (fun (v15,v16)=>⟨X::X::yr 3 0::yr 4 0::yi v15::dd 34 ([]),bw v16 v1⟩) ?_ ?_
  ·intro _ h;refine AT h ?_ ?_<;>intro h
   ·refine AL h (fun _=>AG) ?_;rintro⟨_,_⟩ h;refine⟨_,rfl,?_⟩;exact AN h
   refine AM h (fun (v21,v22)=>⟨X::X::yr 3 0::yr 4 0::yi v21::dd 34 ([]),bw v22 v1⟩) ?_ ?_
   ·intro _ h;refine AW h fun h=>?_;refine AL h (fun _=>AG) ?_;rintro⟨_,_⟩ h;obtain⟨v27,g28,h⟩:=AH h;refine⟨rfl,BM (f:=D.i) g28,?_⟩;refine⟨rfl,D.i v27,(BW (f:=D.i) g28),?_⟩;exact AN h
   rintro⟨v21,v22⟩ h;exact AN h
  rintro⟨v15,v16⟩ h;exact AN h
 rintro⟨v9,v10⟩ h;refine AL h (fun _=>EX) ?_;rintro⟨_,_⟩ h;exact fin h
theorem Rl {a0:JAC}{r:Bool}(h:D4 a0=some r):yC wl 34 [AV.d (JAC.toD a0)] [] (.d (D.b r)) []:=by
 refine oK Tryz.f34 ⟨rfl,?_⟩;unfold D4 at h;refine AL h (fun _=>EX) ?_;rintro⟨_,_⟩ h;refine AM h (fun v4=>⟨X::X::yb v4::dd 17 ([]),nn 20 ([])⟩) ?_ ?_
 ·intro _ h;exact selC h
 rintro v4 h;exact fin h
theorem IB {a0:Int}{r:Int}(h:Be a0=some r):yC wl 107 [AV.d (D.i a0)] [] (.d (D.i r)) []:=by
 refine oK Tryz.f107 ⟨rfl,?_⟩;unfold Be at h;refine goC ?_;refine AM h (fun v1=>⟨X::X::X::yi a0::yb v1::dd 10 ([]),nn 15 ([])⟩) ?_ ?_
 ·intro _ h;refine An h fun h=>?_;refine AM h (fun v3=>⟨X::X::X::yi a0::yb v3::dd 10 ([]),nn 15 ([])⟩) ?_ ?_
  ·intro _ h;refine An h fun h=>?_;refine AM h (fun v5=>⟨X::X::X::yi a0::yb v5::dd 10 ([]),nn 15 ([])⟩) ?_ ?_
   ·intro _ h;exact selC h
   rintro v5 h;exact AN h
  rintro v3 h;exact AN h
 rintro v1 h;refine goC ?_;refine AT h ?_ ?_<;>intro h
 ·exact fin h
 refine goC ?_;refine AT h ?_ ?_<;>intro h
 ·exact fin h
 refine AM h (fun v7=>⟨dd 11 (yb v7::X::X::X::[]),nn 15 ([])⟩) ?_ ?_
 ·intro _ h;refine An h fun h=>?_;refine AM h (fun v9=>⟨dd 11 (yb v9::X::X::X::[]),nn 15 ([])⟩) ?_ ?_
  ·intro _ h;exact selC h
  rintro v9 h;exact AN h
 rintro v7 h;refine goC ?_;refine AT h ?_ ?_<;>intro h
 ·exact fin h
 exact fin h
theorem Ge {a0:Int}{r:Bool}(h:BY a0=some r):yC wl 74 [AV.d (D.i a0)] [] (.d (D.b r)) []:=by
 refine oK Tryz.f74 ⟨rfl,?_⟩;unfold BY at h;refine AM h (fun v1=>⟨X::X::yb v1::dd 11 ([]),nn 14 ([])⟩) ?_ ?_
 ·intro _ h;refine AL h (fun _=>IB) fun _ h=>?_;refine AW h fun h=>?_;exact selC h
 rintro v1 h;exact fin h
theorem LK {a0:JAE}{r:Bool}(h:Fq a0=some r):yC wl 35 [AV.d (JAE.toD a0)] [] (.d (D.b r)) []:=by
 refine oK Tryz.f35 ⟨rfl,?_⟩;unfold Fq at h;refine⟨a0.Other.length,X10 _,?_⟩;refine AM h (fun _=>⟨X::yr 1 0::dd 122 ([]),N::yB (JAE.av a0)::nn 122 ([])⟩) ?_ ?_
 ·intro _ h;revert h;refine Aa 6 3 JAA.toD rfl (fun i2 _=>⟨X::yr 1 0::dd 4 (AV.d (D.l 3 JAA.toD a0.Other)::yi (a0.Other.length:Int)::yi (i2:Int)::dd 115 ([])),N::yB (JAE.av a0)::nn 122 ([])⟩) ?_ ?_ ?_
  ·exact wk
  ·rintro _ K3 h;refine goC ?_;refine BI CX ?_;exact AN h
  rintro _ i2 x5 _ K3 b2 c2 e2 h p6;refine goC ?_;refine BB (CO b2) ?_;refine goC ?_;refine⟨BD (f:=JAA.toD) b2,JAA.toD x5,c2,rfl,?_⟩;refine AM h (fun v7=>⟨X::yr 1 0::dd 4 (AV.d (D.l 3 JAA.toD a0.Other)::yi (a0.Other.length:Int)::yi (i2:Int)::dd 44 (yb v7::dd 70 ([]))),N::yB (JAE.av a0)::nn 122 ([])⟩) ?_ ?_
  ·intro _ h;refine .inl (dO ?_);refine AT h ?_ ?_<;>intro h
   ·refine cO ?_;exact AN h
   refine AT h ?_ ?_<;>intro h
   ·refine cO ?_;exact AN h
   refine Ap h (fun _=>Ge) (fun _=>rfl) fun _ h=>?_;refine AT h ?_ ?_<;>intro h
   ·refine cO ?_;exact AN h
   refine AT h ?_ ?_<;>intro h
   ·refine cO ?_;exact AN h
   refine⟨x5.Data.length,X10 _,?_⟩;refine AT h ?_ ?_<;>intro h
   ·refine cO ?_;exact AN h
   refine AT h ?_ ?_<;>intro h
   ·refine⟨_,rfl,?_⟩;(conv=>whnf);refine Av h (fun _=>rfl) fun _ h=>?_;refine cO ?_;exact AN h
   refine cO ?_;exact AN h
  rintro v7 h;refine goC ?_;refine AT h ?_ ?_<;>intro h
  ·exact fin h
  refine⟨_,e2,?_⟩;exact p6 _ _ wk h
 rintro _ h;refine AM h (fun v13=>⟨X::X::yb v13::dd 121 ([]),nn 124 ([])⟩) ?_ ?_
 ·intro _ h;refine AW h fun h=>?_;refine AW h fun h=>?_;refine AL h (fun _=>Hn) fun _ h=>?_;refine AW h fun h=>?_;refine AL h (fun _=>Hg) fun _ h=>?_;refine AW h fun h=>?_;refine AW h fun h=>?_;refine AW h fun h=>?_;refine AW h fun h=>?_;refine AW h fun h=>?_;refine AT h ?_ ?_<;>intro h
  ·refine AL h (fun _=>Hy) fun _ h=>?_;refine AW h fun h=>?_;refine AL h (fun _=>FH) fun _ h=>?_;refine AW h fun h=>?_;refine⟨a0.Other.length,X10 _,?_⟩;exact AN h
  refine AW h fun h=>?_;refine AW h fun h=>?_;refine AL h (fun _=>Hy) fun _ h=>?_;refine AW h fun h=>?_;refine AL h (fun _=>FH) fun _ h=>?_;refine AW h fun h=>?_;refine⟨a0.Other.length,X10 _,?_⟩;exact AN h
 rintro v13 h;exact fin h
theorem SU {a0:List JAD}{a1:List JAD}{r:Bool}(h:FY a0 a1=some r):yC wl 79 [AV.d (D.l 2 JAD.toD a0),AV.d (D.l 2 JAD.toD a1)] [] (.d (D.b r)) []:=by
 refine oK Tryz.f79 ⟨rfl,?_⟩;unfold FY at h;refine⟨a0.length,X10 _,?_⟩;refine⟨a1.length,X10 _,?_⟩;refine goC ?_;refine AT h ?_ ?_<;>intro h
 ·exact fin h
 refine⟨a0.length,X10 _,?_⟩;refine AM h (fun _=>⟨dd 61 ([]),nn 61 ([])⟩) ?_ ?_
 ·intro _ h;revert h;refine Aa 14 2 JAD.toD rfl (fun i2 _=>⟨X::y0 a1::dd 12 (y0 a0::yi (a0.length:Int)::yi (i2:Int)::dd 44 ([])),nn 61 ([])⟩) ?_ ?_ ?_
  ·exact wk
  ·rintro _ K3 h;refine goC ?_;refine BI CX ?_;exact AN h
  rintro _ i2 x5 _ K3 b2 c2 e2 h p6;refine goC ?_;refine BB (CO b2) ?_;refine AM h (fun _=>⟨X::y0 a1::dd 12 (y0 a0::yi (a0.length:Int)::yi (i2:Int)::dd 44 ([])),nn 61 ([])⟩) ?_ ?_
  ·intro _ h;refine⟨BD (f:=JAD.toD) b2,JAD.toD x5,c2,rfl,?_⟩;refine AM h (fun v8=>⟨X::y0 a1::X::X::X::yi (i2:Int)::yr 6 0::dd 7 (y0 a0::yi (a0.length:Int)::yi (i2:Int)::dd 23 (yb v8::dd 20 ([]))),nn 6 (yB (JAD.av x5)::nn 54 ([]))⟩) ?_ ?_
   ·intro _ h;refine .inl (dO ?_);(conv=>whnf);refine Av h (fun _=>rfl) fun _ h=>?_;refine AT h ?_ ?_<;>intro h
    ·refine cO ?_;exact AN h
    refine⟨x5.ASNs.length,X10 _,?_⟩;(conv=>whnf);refine Av h (fun _=>rfl) fun v12 h=>?_;refine⟨v12.ASNs.length,X10 _,?_⟩;refine cO ?_;exact AN h
   rintro v8 h;refine goC ?_;refine AT h ?_ ?_<;>intro h
   ·exact fin h
   refine⟨x5.ASNs.length,X10 _,?_⟩;refine AM h (fun _=>⟨X::y0 a1::dd 12 (y0 a0::yi (a0.length:Int)::yi (i2:Int)::dd 44 ([])),nn 61 ([])⟩) ?_ ?_
   ·intro _ h;revert h;refine Aa 42 1 D.i rfl (fun i15 _=>⟨X::y0 a1::X::X::X::yi (i2:Int)::dd 8 (y0 a0::yi (a0.length:Int)::yi (i2:Int)::dd 25 (AV.d (D.l 1 D.i x5.ASNs)::yi (x5.ASNs.length:Int)::yi (i15:Int)::dd 16 ([]))),nn 61 ([])⟩) ?_ ?_ ?_
    ·exact wk
    ·rintro _ K16 h;refine goC ?_;refine BI CX ?_;exact AN h
    rintro _ i15 x18 _ K16 b15 c15 e15 h p19;refine goC ?_;refine BB (CO b15) ?_;refine goC ?_;refine⟨BD (f:=D.i) b15,D.i x18,c15,rfl,?_⟩;(conv=>whnf);refine Av h (fun _=>rfl) fun _ h=>?_;(conv=>whnf);refine Av h (fun _=>rfl) fun _ h=>?_;refine goC ?_;refine AT h ?_ ?_<;>intro h
    ·exact fin h
    refine⟨_,e15,?_⟩;exact p19 _ _ wk h
   rintro _ h;exact AN h
  rintro _ h;refine⟨_,e2,?_⟩;exact p6 _ _ wk h
 rintro _ h;exact fin h
theorem SL {a0:List JAB}{a1:List JAB}{r:Bool}(h:Fa a0 a1=some r):yC wl 80 [AV.d (D.l 2 JAB.toD a0),AV.d (D.l 2 JAB.toD a1)] [] (.d (D.b r)) []:=by
 refine oK Tryz.f80 ⟨rfl,?_⟩;unfold Fa at h;refine⟨a0.length,X10 _,?_⟩;refine⟨a1.length,X10 _,?_⟩;refine goC ?_;refine AT h ?_ ?_<;>intro h
 ·exact fin h
 refine⟨a0.length,X10 _,?_⟩;refine AM h (fun _=>⟨dd 26 ([]),nn 26 ([])⟩) ?_ ?_
 ·intro _ h;revert h;refine Aa 12 2 JAB.toD rfl (fun i2 _=>⟨X::y1 a1::dd 10 (y1 a0::yi (a0.length:Int)::yi (i2:Int)::dd 11 ([])),nn 26 ([])⟩) ?_ ?_ ?_
  ·exact wk
  ·rintro _ K3 h;refine goC ?_;refine BI CX ?_;exact AN h
  rintro _ i2 x5 _ K3 b2 c2 e2 h p6;refine goC ?_;refine BB (CO b2) ?_;refine goC ?_;refine⟨BD (f:=JAB.toD) b2,JAB.toD x5,c2,rfl,?_⟩;refine .inl (dO ?_);(conv=>whnf);refine Av h (fun _=>rfl) fun _ h=>?_;refine cO ?_;refine goC ?_;refine AT h ?_ ?_<;>intro h
  ·exact fin h
  refine⟨_,e2,?_⟩;exact p6 _ _ wk h
 rintro _ h;exact fin h
theorem MY {a0:List JAF}{a1:List JAF}{r:Bool}(h:DT a0 a1=some r):yC wl 81 [AV.d (D.l 3 JAF.toD a0),AV.d (D.l 3 JAF.toD a1)] [] (.d (D.b r)) []:=by
 refine oK Tryz.f81 ⟨rfl,?_⟩;unfold DT at h;refine⟨a0.length,X10 _,?_⟩;refine⟨a1.length,X10 _,?_⟩;refine goC ?_;refine AT h ?_ ?_<;>intro h
 ·exact fin h
 refine⟨a0.length,X10 _,?_⟩;refine AM h (fun _=>⟨dd 26 ([]),nn 26 ([])⟩) ?_ ?_
 ·intro _ h;revert h;refine Aa 12 3 JAF.toD rfl (fun i2 _=>⟨X::y2 a1::dd 10 (y2 a0::yi (a0.length:Int)::yi (i2:Int)::dd 11 ([])),nn 26 ([])⟩) ?_ ?_ ?_
  ·exact wk
  ·rintro _ K3 h;refine goC ?_;refine BI CX ?_;exact AN h
  rintro _ i2 x5 _ K3 b2 c2 e2 h p6;refine goC ?_;refine BB (CO b2) ?_;refine goC ?_;refine⟨BD (f:=JAF.toD) b2,JAF.toD x5,c2,rfl,?_⟩;refine .inl (dO ?_);(conv=>whnf);refine Av h (fun _=>rfl) fun _ h=>?_;refine cO ?_;refine goC ?_;refine AT h ?_ ?_<;>intro h
  ·exact fin h
  refine⟨_,e2,?_⟩;exact p6 _ _ wk h
 rintro _ h;exact fin h
theorem Nx {a0:List JAA}{a1:List JAA}{r:Bool}(h:Dp a0 a1=some r):yC wl 82 [AV.d (D.l 3 JAA.toD a0),AV.d (D.l 3 JAA.toD a1)] [] (.d (D.b r)) []:=by
 refine oK Tryz.f82 ⟨rfl,?_⟩;unfold Dp at h;refine⟨a0.length,X10 _,?_⟩;refine⟨a1.length,X10 _,?_⟩;refine goC ?_;refine AT h ?_ ?_<;>intro h
 ·exact fin h
 refine⟨a0.length,X10 _,?_⟩;refine AM h (fun _=>⟨dd 50 ([]),nn 50 ([])⟩) ?_ ?_
 ·intro _ h;revert h;refine Aa 12 3 JAA.toD rfl (fun i2 _=>⟨X::y4 a1::dd 10 (y4 a0::yi (a0.length:Int)::yi (i2:Int)::dd 35 ([])),nn 50 ([])⟩) ?_ ?_ ?_
  ·exact wk
  ·rintro _ K3 h;refine goC ?_;refine BI CX ?_;exact AN h
  rintro _ i2 x5 _ K3 b2 c2 e2 h p6;refine goC ?_;refine BB (CO b2) ?_;refine goC ?_;refine⟨BD (f:=JAA.toD) b2,JAA.toD x5,c2,rfl,?_⟩;refine AM h (fun v7=>⟨X::y4 a1::dd 10 (y4 a0::yi (a0.length:Int)::yi (i2:Int)::dd 33 (yb v7::X::[])),nn 50 ([])⟩) ?_ ?_
  ·intro _ h;refine .inl (dO ?_);(conv=>whnf);refine Av h (fun _=>rfl) fun _ h=>?_;refine AT h ?_ ?_<;>intro h
   ·refine cO ?_;exact AN h
   (conv=>whnf);refine Av h (fun _=>rfl) fun _ h=>?_;refine AT h ?_ ?_<;>intro h
   ·refine cO ?_;exact AN h
   refine⟨x5.Data,rfl,?_⟩;(conv=>whnf);refine Av h (fun _=>rfl) fun v13 h=>?_;refine⟨v13.Data,rfl,?_⟩;refine cO ?_;exact AN h
  rintro v7 h;refine goC ?_;refine AT h ?_ ?_<;>intro h
  ·exact fin h
  refine⟨_,e2,?_⟩;exact p6 _ _ wk h
 rintro _ h;exact fin h
theorem L6 {a0:JAE}{a1:JAE}{r:Bool}(h:Dm a0 a1=some r):yC wl 36 [AV.d (JAE.toD a0),AV.d (JAE.toD a1)] [] (.d (D.b r)) []:=by
 refine oK Tryz.f36 ⟨rfl,?_⟩;unfold Dm at h;refine AM h (fun v1=>⟨dd 4 (yb v1::dd 61 ([])),nn 66 ([])⟩) ?_ ?_
 ·intro _ h;refine AW h fun h=>?_;refine AL h (fun _=>SU) fun _ h=>?_;refine AW h fun h=>?_;refine AW h fun h=>?_;refine AW h fun h=>?_;refine AW h fun h=>?_;refine AW h fun h=>?_;refine AL h (fun _=>SL) fun _ h=>?_;refine AW h fun h=>?_;refine AL h (fun _=>MY) fun _ h=>?_;refine AW h fun h=>?_;refine AL h (fun _=>Nx) fun _ h=>?_;exact AN h
 rintro v1 h;exact fin h
theorem C9 {a0:Int}{a1:Int}{r:(List UInt8)}(h:AU a0 a1=some r):yC wl 106 [AV.d (D.i a0),AV.d (D.i a1)] [] (.d (D.l 1 D.u8 r)) []:=by
 refine oK Tryz.f106 ⟨rfl,?_⟩;unfold AU at h;refine⟨_,rfl,?_⟩;refine AM h (fun v1=>⟨dd 5 (yO 5 D.u8 v1::dd 17 ([])),nn 5 (yR 5 1 D.u8 v1::nn 17 ([]))⟩) ?_ ?_
 ·intro _ h;revert h;refine AZ (fun (v3,v4)=>⟨yi a0::dd 4 (yO 5 D.u8 v4::yi v3::dd 16 ([])),nn 5 (yR 5 1 D.u8 v4::nn 17 ([]))⟩) ?_ ?_
  ·exact wk
  rintro _ ⟨v3,v4⟩ _ h p7;refine goC ?_;refine AW h fun h=>?_;refine goC ?_;refine⟨_,Aw _,?_⟩;refine⟨_,Aw _,?_⟩;refine⟨Int.natCast_nonneg _,_,rfl,?_⟩;refine⟨_,Ae _,?_⟩;refine⟨rfl,?_⟩;refine apO h rfl fun _ h=>?_;refine⟨_,rfl,?_⟩;exact p7 _ _ wk h
 rintro v1 h;(conv=>whnf);refine .inl ?_;(conv=>whnf);refine .inl ?_;refine⟨rfl,?_⟩;exact fin h
theorem KR {a0:JAE}{r:(List JAA)×Int}(h:Ep a0=some r):yC wl 55 [AV.d (JAE.toD a0)] [] (.tup [.d (D.l 3 JAA.toD r.1),.d (D.i r.2)]) []:=by
 refine oK Tryz.f55 ⟨rfl,?_⟩;unfold Ep at h;refine AL h (fun _=>LK) fun _ h=>?_;refine goC ?_;refine AT h ?_ ?_<;>intro h
 ·exact fin h
 refine AM h (fun v3=>⟨Vy,N::yB (JAE.av a0)::N::N::some (OB.row 88 3 (List.map JAA.toD []) .no)::nn 19 (some (OB.map 3 44 (Bv D.i (D.l 1 D.u8) v3))::nn 170 ([]))⟩) ?_ ?_
 ·intro _ h;refine AW h fun h=>?_;refine⟨_,Ae _,?_⟩;(conv=>whnf);refine .inl ?_;refine⟨rfl,?_⟩;refine⟨_,EF (ek:=D.i) (ev:=(D.l 1 D.u8)) (l:=[]) (k:=1) (v:=([(Am a0.Origin)]:List UInt8)) BO,?_⟩;exact AN h
 rintro v3 h;refine AM h (fun v5=>⟨X::yr 1 0::X::X::AV.own 4 (List.map JAA.toD []).length::AV.mp 24::dd 35 (yb v5::dd 153 ([])),N::yB (JAE.av a0)::N::N::some (OB.row 88 3 (List.map JAA.toD []) .no)::nn 19 (some (OB.map 3 44 (Bv D.i (D.l 1 D.u8) v3))::nn 170 ([]))⟩) ?_ ?_
 ·intro _ h;refine An h fun h=>?_;refine⟨a0.Path.length,X10 _,?_⟩;exact AN h
 rintro v5 h;refine AM h (fun v7=>⟨Vy,N::yB (JAE.av a0)::N::N::some (OB.row 88 3 (List.map JAA.toD []) .no)::nn 19 (some (OB.map 3 44 (Bv D.i (D.l 1 D.u8) v7))::nn 170 ([]))⟩) ?_ ?_
 ·intro _ h;refine AW h fun h=>?_;refine⟨a0.Path.length,X10 _,?_⟩;refine AM h (fun v9=>⟨X::yr 1 0::X::X::AV.own 4 (List.map JAA.toD []).length::AV.mp 24::yO 42 D.u8 v9::dd 188 ([]),N::yB (JAE.av a0)::N::N::some (OB.row 88 3 (List.map JAA.toD []) .no)::nn 19 (some (OB.map 3 44 (Bv D.i (D.l 1 D.u8) v3))::nn 17 (yR 5 1 D.u8 v9::nn 152 ([])))⟩) ?_ ?_
  ·intro _ h;revert h;refine Aa 44 2 JAD.toD rfl (fun i11 v12=>⟨dN (a0.Path.length:Int) (i11:Int) v12 a0.Path,N::yB (JAE.av a0)::N::N::some (OB.row 88 3 (List.map JAA.toD []) .no)::nn 19 (some (OB.map 3 44 (Bv D.i (D.l 1 D.u8) v3))::nn 17 (yR 5 1 D.u8 v12::nn 152 ([])))⟩) ?_ ?_ ?_
   ·exact wk
   ·rintro v12 K13 h;refine goC ?_;refine BI CX ?_;exact AN h
   rintro _ i11 x15 v12 K13 b11 c11 e11 h p16;refine goC ?_;refine BB (CO b11) ?_;refine AM h (fun v17=>⟨dN (a0.Path.length:Int) (i11:Int) v17 a0.Path,N::yB (JAE.av a0)::N::N::some (OB.row 88 3 (List.map JAA.toD []) .no)::nn 19 (some (OB.map 3 44 (Bv D.i (D.l 1 D.u8) v3))::nn 17 (yR 5 1 D.u8 v17::nn 152 ([])))⟩) ?_ ?_
   ·intro _ h;refine⟨BD (f:=JAD.toD) b11,JAD.toD x15,c11,rfl,?_⟩;refine AM h (fun v19=>⟨X::yr 1 0::X::X::AV.own 4 (List.map JAA.toD []).length::AV.mp 24::yO 42 D.u8 v12::X::yr 8 0::yv v19::dd 34 (AV.d (D.l 2 JAD.toD a0.Path)::yi (a0.Path.length:Int)::yi (i11:Int)::dd 148 ([])),N::yB (JAE.av a0)::N::N::some (OB.row 88 3 (List.map JAA.toD []) .no)::N::N::N::yB (JAD.av x15)::nn 15 (some (OB.map 3 44 (Bv D.i (D.l 1 D.u8) v3))::nn 17 (yR 5 1 D.u8 v12::nn 152 ([])))⟩) ?_ ?_
    ·intro _ h;exact selC h
    rintro v19 h;refine⟨x15.ASNs.length,X10 _,?_⟩;refine⟨_,Ae _,?_⟩;refine⟨rfl,?_⟩;refine apO h rfl fun _ h=>?_;refine⟨x15.ASNs.length,X10 _,?_⟩;refine AM h (fun v23=>⟨dN (a0.Path.length:Int) (i11:Int) v23 a0.Path,N::yB (JAE.av a0)::N::N::some (OB.row 88 3 (List.map JAA.toD []) .no)::nn 19 (some (OB.map 3 44 (Bv D.i (D.l 1 D.u8) v3))::nn 17 (yR 5 1 D.u8 v23::nn 152 ([])))⟩) ?_ ?_
    ·intro _ h;revert h;refine Aa 61 1 D.i rfl (fun i25 v26=>⟨X::yr 1 0::X::X::AV.own 4 (List.map JAA.toD []).length::AV.mp 24::yO 42 D.u8 v26::dd 37 (AV.d (D.l 2 JAD.toD a0.Path)::yi (a0.Path.length:Int)::yi (i11:Int)::dd 14 (AV.d (D.l 1 D.i x15.ASNs)::yi (x15.ASNs.length:Int)::yi (i25:Int)::dd 131 ([]))),N::yB (JAE.av a0)::N::N::some (OB.row 88 3 (List.map JAA.toD []) .no)::nn 19 (some (OB.map 3 44 (Bv D.i (D.l 1 D.u8) v3))::nn 17 (yR 5 1 D.u8 v26::nn 152 ([])))⟩) ?_ ?_ ?_
     ·exact wk
     ·rintro v26 K27 h;refine goC ?_;refine BI CX ?_;exact AN h
     rintro _ i25 x29 v26 K27 b25 c25 e25 h p30;refine goC ?_;refine BB (CO b25) ?_;refine goC ?_;refine⟨BD (f:=D.i) b25,D.i x29,c25,rfl,?_⟩;refine AL h (fun _=>C9) fun _ h=>?_;refine apO h rfl fun _ h=>?_;refine⟨_,e25,?_⟩;exact p30 _ _ wk h
    rintro v23 h;exact AN h
   rintro v17 h;refine⟨_,e11,?_⟩;exact p16 _ _ wk h
  rintro v9 h;(conv=>whnf);refine .inl ?_;refine⟨rfl,?_⟩;refine⟨_,EF (ek:=D.i) (ev:=(D.l 1 D.u8)) (l:=v3) (k:=2) (v:=v9) BO,?_⟩;exact AN h
 rintro v7 h;refine AM h (fun v35=>⟨X::yr 1 0::X::X::AV.own 4 (List.map JAA.toD []).length::AV.mp 24::dd 78 (yb v35::dd 110 ([])),N::yB (JAE.av a0)::N::N::some (OB.row 88 3 (List.map JAA.toD []) .no)::nn 19 (some (OB.map 3 44 (Bv D.i (D.l 1 D.u8) v7))::nn 170 ([]))⟩) ?_ ?_
 ·intro _ h;exact selC h
 rintro v35 h;refine AM h (fun v37=>⟨Vy,N::yB (JAE.av a0)::N::N::some (OB.row 88 3 (List.map JAA.toD []) .no)::nn 19 (some (OB.map 3 44 (Bv D.i (D.l 1 D.u8) v37))::nn 170 ([]))⟩) ?_ ?_
 ·intro _ h;refine AW h fun h=>?_;refine PU [88] h (fun _=>F7) fun v39 h=>?_;(conv=>whnf);refine .inl ?_;refine⟨rfl,?_⟩;refine⟨_,EF (ek:=D.i) (ev:=(D.l 1 D.u8)) (l:=v7) (k:=3) (v:=v39) BO,?_⟩;exact AN h
 rintro v37 h;refine AM h (fun v41=>⟨Vy,N::yB (JAE.av a0)::N::N::some (OB.row 88 3 (List.map JAA.toD []) .no)::nn 19 (some (OB.map 3 44 (Bv D.i (D.l 1 D.u8) v41))::nn 170 ([]))⟩) ?_ ?_
 ·intro _ h;refine AW h fun h=>?_;refine AL h (fun _=>C9) fun v43 h=>?_;refine⟨_,EF (ek:=D.i) (ev:=(D.l 1 D.u8)) (l:=v37) (k:=4) (v:=v43) BO,?_⟩;exact AN h
 rintro v41 h;refine AM h (fun v45=>⟨Vy,N::yB (JAE.av a0)::N::N::some (OB.row 88 3 (List.map JAA.toD []) .no)::nn 19 (some (OB.map 3 44 (Bv D.i (D.l 1 D.u8) v45))::nn 170 ([]))⟩) ?_ ?_
 ·intro _ h;refine AW h fun h=>?_;refine AL h (fun _=>C9) fun v47 h=>?_;refine⟨_,EF (ek:=D.i) (ev:=(D.l 1 D.u8)) (l:=v41) (k:=5) (v:=v47) BO,?_⟩;exact AN h
 rintro v45 h;refine⟨a0.Communities.length,X10 _,?_⟩;refine AM h (fun (v49,v50)=>⟨Vy,N::yB (JAE.av a0)::N::N::some (OB.row 88 3 (List.map JAA.toD []) .no)::nn 19 (some (OB.amap 3 44 (Bv D.i (D.l 1 D.u8) v49) (.int .i64 8) 112 (List.map D.u8 v50).length)::nn 87 (some (OB.row 5 1 (List.map D.u8 v50) .yes)::nn 82 ([])))⟩) ?_ ?_
 ·intro _ h;obtain⟨_,g52,h⟩:=AH h;revert h;refine Aa 104 2 JAB.toD rfl (fun i53 (v54,v55)=>⟨X::yr 1 0::X::X::AV.own 4 (List.map JAA.toD []).length::AV.mp 24::dd 98 (AV.d (D.l 2 JAB.toD a0.Communities)::yi (a0.Communities.length:Int)::yi (i53:Int)::dd 88 ([])),N::yB (JAE.av a0)::N::N::some (OB.row 88 3 (List.map JAA.toD []) .no)::nn 19 (some (OB.amap 3 44 (Bv D.i (D.l 1 D.u8) v54) (.int .i64 8) 112 (List.map D.u8 v55).length)::nn 87 (some (OB.row 5 1 (List.map D.u8 v55) .yes)::nn 82 ([])))⟩) ?_ ?_ ?_
  ·exact (.mk rfl (And.intro (.refl _) (And.intro (.refl _) (And.intro (.refl _) (And.intro (.refl _) (And.intro (.refl _) (And.intro (.refl _) True.intro)))))) (And.intro ⟨_,rfl,And.intro ⟨rfl,.refl _⟩ (And.intro ⟨rfl,.refl _⟩ (And.intro ⟨rfl,.refl _⟩ (And.intro ⟨rfl,.refl _⟩ (And.intro ⟨rfl,.refl _⟩ (And.intro ⟨rfl,.refl _⟩ (And.intro ⟨rfl,.refl _⟩ (And.intro ⟨rfl,.refl _⟩ (And.intro ⟨rfl,.refl _⟩ (And.intro ⟨rfl,.refl _⟩ (And.intro ⟨rfl,.refl _⟩ (True.intro)))))))))))⟩ (And.intro (.inl ⟨_,rfl,⟨id,trivial⟩⟩) (And.intro (.inr ⟨.inl rfl,⟨_,Pe BO g52⟩,rfl,rfl,_,_,_,rfl⟩) (And.intro (.inr ⟨rfl,rfl,by decide⟩) (True.intro))))) rfl)
  ·rintro⟨v54,v55⟩ K56 h;refine goC ?_;refine BI CX ?_;exact AN h
  rintro _ i53 x58 ⟨v54,v55⟩ K56 b53 c53 e53 h p59;refine goC ?_;refine BB (CO b53) ?_;refine goC ?_;refine⟨BD (f:=JAB.toD) b53,JAB.toD x58,c53,rfl,?_⟩;refine .inl (dO ?_);(conv=>whnf);refine .inr ⟨rfl,rfl,⟨_,BZ (ek:=D.i) (ev:=(D.l 1 D.u8)) (l:=v54) (k:=8) BO⟩,rfl,?_⟩;refine Ap h (fun _=>C9) (fun _=>rfl) fun _ h=>?_;refine apO h rfl fun _ h=>?_;refine Ap h (fun _=>C9) (fun _=>rfl) fun _ h=>?_;refine apO h rfl fun v66 h=>?_;(conv=>whnf);refine .inr ?_;refine⟨rfl,?_⟩;refine⟨_,EF (ek:=D.i) (ev:=(D.l 1 D.u8)) (l:=v54) (k:=8) (v:=v66) BO,?_⟩;refine cO ?_;refine⟨_,e53,?_⟩;exact p59 _ _ wk h
 rintro⟨v49,v50⟩ h;refine⟨a0.JAF.length,X10 _,?_⟩;refine AM h (fun (v68,v69)=>⟨Vy,N::yB (JAE.av a0)::N::N::some (OB.row 88 3 (List.map JAA.toD []) .no)::nn 19 (some (OB.amap 3 44 (Bv D.i (D.l 1 D.u8) v68) (.int .i64 32) 131 (List.map D.u8 v69).length)::nn 106 (some (OB.row 5 1 (List.map D.u8 v69) .yes)::nn 63 ([])))⟩) ?_ ?_
 ·intro _ h;obtain⟨_,g71,h⟩:=AH h;revert h;refine Aa 123 3 JAF.toD rfl (fun i72 (v73,v74)=>⟨X::yr 1 0::X::X::AV.own 4 (List.map JAA.toD []).length::AV.mp 24::dd 117 (AV.d (D.l 3 JAF.toD a0.JAF)::yi (a0.JAF.length:Int)::yi (i72:Int)::dd 69 ([])),N::yB (JAE.av a0)::N::N::some (OB.row 88 3 (List.map JAA.toD []) .no)::nn 19 (some (OB.amap 3 44 (Bv D.i (D.l 1 D.u8) v73) (.int .i64 32) 131 (List.map D.u8 v74).length)::nn 106 (some (OB.row 5 1 (List.map D.u8 v74) .yes)::nn 63 ([])))⟩) ?_ ?_ ?_
  ·exact (.mk rfl (And.intro (.refl _) (And.intro (.refl _) (And.intro (.refl _) (And.intro (.refl _) (And.intro (.refl _) (And.intro (.refl _) True.intro)))))) (And.intro ⟨_,rfl,And.intro ⟨rfl,.refl _⟩ (And.intro ⟨rfl,.refl _⟩ (And.intro ⟨rfl,.refl _⟩ (And.intro ⟨rfl,.refl _⟩ (And.intro ⟨rfl,.refl _⟩ (And.intro ⟨rfl,.refl _⟩ (And.intro ⟨rfl,.refl _⟩ (And.intro ⟨rfl,.refl _⟩ (And.intro ⟨rfl,.refl _⟩ (And.intro ⟨rfl,.refl _⟩ (And.intro ⟨rfl,.refl _⟩ (True.intro)))))))))))⟩ (And.intro (.inl ⟨_,rfl,⟨id,trivial⟩⟩) (And.intro (.inr ⟨.inr ⟨_,_,_,rfl⟩,⟨_,Pe BO g71⟩,rfl,rfl,_,_,_,rfl⟩) (And.intro (.inr ⟨rfl,rfl,by decide⟩) (True.intro))))) rfl)
  ·rintro⟨v73,v74⟩ K75 h;refine goC ?_;refine BI CX ?_;exact AN h
  rintro _ i72 x77 ⟨v73,v74⟩ K75 b72 c72 e72 h p78;refine goC ?_;refine BB (CO b72) ?_;refine goC ?_;refine⟨BD (f:=JAF.toD) b72,JAF.toD x77,c72,rfl,?_⟩;refine .inl (dO ?_);(conv=>whnf);refine .inr ⟨rfl,rfl,⟨_,BZ (ek:=D.i) (ev:=(D.l 1 D.u8)) (l:=v73) (k:=32) BO⟩,rfl,?_⟩;refine Ap h (fun _=>C9) (fun _=>rfl) fun _ h=>?_;refine apO h rfl fun _ h=>?_;refine Ap h (fun _=>C9) (fun _=>rfl) fun _ h=>?_;refine apO h rfl fun _ h=>?_;refine Ap h (fun _=>C9) (fun _=>rfl) fun _ h=>?_;refine apO h rfl fun v89 h=>?_;(conv=>whnf);refine .inr ?_;refine⟨rfl,?_⟩;refine⟨_,EF (ek:=D.i) (ev:=(D.l 1 D.u8)) (l:=v73) (k:=32) (v:=v89) BO,?_⟩;refine cO ?_;refine⟨_,e72,?_⟩;exact p78 _ _ wk h
 rintro⟨v68,v69⟩ h;refine AM h (fun v91=>⟨Vy,N::yB (JAE.av a0)::N::N::some (OB.row 88 3 (List.map JAA.toD []) .no)::nn 19 (some (OB.map 3 44 (Bv D.i (D.l 1 D.u8) v91))::nn 170 ([]))⟩) ?_ ?_
 ·intro _ h;refine AW h fun h=>?_;refine AL h (fun _=>C9) fun v93 h=>?_;refine⟨_,EF (ek:=D.i) (ev:=(D.l 1 D.u8)) (l:=v68) (k:=35) (v:=v93) BO,?_⟩;exact AN h
 rintro v91 h;refine AM h (fun v95=>⟨dd 4 (yO 4 JAA.toD v95::dd 190 ([])),nn 4 (yR 88 3 JAA.toD v95::nn 190 ([]))⟩) ?_ ?_
 ·intro _ h;revert h;refine AZ (fun (v97,v98)=>⟨dL v97 v98,N::yB (JAE.av a0)::N::N::yR 88 3 JAA.toD v98::nn 19 (some (OB.map 3 44 (Bv D.i (D.l 1 D.u8) v91))::nn 170 ([]))⟩) ?_ ?_
  ·exact wk
  rintro _ ⟨v97,v98⟩ _ h p101;refine goC ?_;refine AW h fun h=>?_;refine AM h (fun v102=>⟨dL v97 v102,N::yB (JAE.av a0)::N::N::yR 88 3 JAA.toD v102::nn 19 (some (OB.map 3 44 (Bv D.i (D.l 1 D.u8) v91))::nn 170 ([]))⟩) ?_ ?_
  ·intro _ h;obtain⟨v104,g105,h⟩:=AH h;obtain⟨v106,g107,h⟩:=AH h;refine⟨_,BZ (ek:=D.i) (ev:=(D.l 1 D.u8)) (l:=v91) (k:=v97) BO,(D.l 1 D.u8) v104,Ds (z:=[]) rfl g105,v106,bv g107,?_⟩;refine AM h (fun v108=>⟨X::yr 1 0::X::X::yO 4 JAA.toD v108::AV.mp 24::dd 10 (yi v97::dd 135 (yi v97::dd 42 ([]))),N::yB (JAE.av a0)::N::N::yR 88 3 JAA.toD v108::nn 19 (some (OB.map 3 44 (Bv D.i (D.l 1 D.u8) v91))::nn 170 ([]))⟩) ?_ ?_
   ·intro _ h;refine AW h fun h=>?_;refine AL h (fun _=>IB) fun _ h=>?_;refine apN (f:=D.u8) h fun _ h=>?_;(conv=>whnf);refine .inl ?_;refine⟨rfl,?_⟩;refine⟨rfl,?_⟩;refine apO h rfl fun _ h=>?_;exact AN h
   rintro v108 h;refine⟨a0.Other.length,X10 _,?_⟩;refine AM h (fun v115=>⟨dL v97 v115,N::yB (JAE.av a0)::N::N::yR 88 3 JAA.toD v115::nn 19 (some (OB.map 3 44 (Bv D.i (D.l 1 D.u8) v91))::nn 170 ([]))⟩) ?_ ?_
   ·intro _ h;revert h;refine Aa 172 3 JAA.toD rfl (fun i117 v118=>⟨eQ v97 (a0.Other.length:Int) (i117:Int) v118 a0.Other,N::yB (JAE.av a0)::N::N::yR 88 3 JAA.toD v118::nn 19 (some (OB.map 3 44 (Bv D.i (D.l 1 D.u8) v91))::nn 170 ([]))⟩) ?_ ?_ ?_
    ·exact wk
    ·rintro v118 K119 h;refine goC ?_;refine BI CX ?_;exact AN h
    rintro _ i117 x121 v118 K119 b117 c117 e117 h p122;refine goC ?_;refine BB (CO b117) ?_;refine goC ?_;refine⟨BD (f:=JAA.toD) b117,JAA.toD x121,c117,rfl,?_⟩;refine AM h (fun v123=>⟨eQ v97 (a0.Other.length:Int) (i117:Int) v123 a0.Other,N::yB (JAE.av a0)::N::N::yR 88 3 JAA.toD v123::nn 19 (some (OB.map 3 44 (Bv D.i (D.l 1 D.u8) v91))::nn 170 ([]))⟩) ?_ ?_
    ·intro _ h;refine AW h fun h=>?_;refine .inl (dO ?_);refine apN (f:=D.u8) h fun _ h=>?_;(conv=>whnf);refine .inl ?_;refine⟨rfl,?_⟩;refine⟨rfl,?_⟩;refine apO h rfl fun _ h=>?_;refine cO ?_;exact AN h
    rintro v123 h;refine⟨_,e117,?_⟩;exact p122 _ _ wk h
   rintro v115 h;exact AN h
  rintro v102 h;refine⟨_,rfl,?_⟩;exact p101 _ _ wk h
 rintro v95 h;(conv=>whnf);refine .inl ?_;refine⟨rfl,?_⟩;exact fin h
theorem Ly {a0:List JAA}{r:(List UInt8)×Int}(h:GZ a0=some r):yC wl 57 [AV.d (D.l 3 JAA.toD a0)] [] (.tup [.d (D.l 1 D.u8 r.1),.d (D.i r.2)]) []:=by
 refine oK Tryz.f57 ⟨rfl,?_⟩;unfold GZ at h;refine⟨a0.length,X10 _,?_⟩;refine AM h (fun _=>⟨y4 a0::dd 88 ([]),nn 89 ([])⟩) ?_ ?_
 ·intro _ h;revert h;refine Aa 10 3 JAA.toD rfl (fun i2 _=>⟨y4 a0::dd 9 (y4 a0::yi (a0.length:Int)::yi (i2:Int)::dd 76 ([])),nn 89 ([])⟩) ?_ ?_ ?_
  ·exact wk
  ·rintro _ K3 h;refine goC ?_;refine BI CX ?_;exact AN h
  rintro _ i2 x5 _ K3 b2 c2 e2 h p6;refine goC ?_;refine BB (CO b2) ?_;refine goC ?_;refine⟨BD (f:=JAA.toD) b2,JAA.toD x5,c2,rfl,?_⟩;refine AM h (fun v7=>⟨y4 a0::dd 9 (y4 a0::yi (a0.length:Int)::yi (i2:Int)::dd 26 (yb v7::dd 49 ([]))),nn 89 ([])⟩) ?_ ?_
  ·intro _ h;refine An h fun h=>?_;refine An h fun h=>?_;refine An h fun h=>?_;refine An h fun h=>?_;refine⟨x5.Data.length,X10 _,?_⟩;exact AN h
  rintro v7 h;refine goC ?_;refine AT h ?_ ?_<;>intro h
  ·(conv=>whnf);refine .inl ?_;refine⟨rfl,?_⟩;exact fin h
  refine⟨_,e2,?_⟩;exact p6 _ _ wk h
 rintro _ h;refine⟨a0.length,X10 _,?_⟩;refine AM h (fun v9=>⟨dd 6 (yO 6 D.u8 v9::dd 82 ([])),nn 6 (yR 5 1 D.u8 v9::nn 82 ([]))⟩) ?_ ?_
 ·intro _ h;revert h;refine Aa 41 3 JAA.toD rfl (fun i11 v12=>⟨dd 6 (yO 6 D.u8 v12::dd 34 (y4 a0::yi (a0.length:Int)::yi (i11:Int)::dd 45 ([]))),nn 6 (yR 5 1 D.u8 v12::nn 82 ([]))⟩) ?_ ?_ ?_
  ·exact wk
  ·rintro v12 K13 h;refine goC ?_;refine BI CX ?_;exact AN h
  rintro _ i11 x15 v12 K13 b11 c11 e11 h p16;refine goC ?_;refine BB (CO b11) ?_;refine goC ?_;refine⟨BD (f:=JAA.toD) b11,JAA.toD x15,c11,rfl,?_⟩;refine⟨x15.Data.length,X10 _,?_⟩;refine AM h (fun v17=>⟨dd 6 (yO 6 D.u8 v17::X::yr 8 0::dd 32 (y4 a0::yi (a0.length:Int)::yi (i11:Int)::dd 45 ([]))),nn 6 (yR 5 1 D.u8 v17::N::yB (JAA.av x15)::nn 80 ([]))⟩) ?_ ?_
  ·intro _ h;refine AT h ?_ ?_<;>intro h
   ·refine⟨_,Ae _,?_⟩;refine⟨_,Ae _,?_⟩;refine⟨_,Ae _,?_⟩;refine⟨_,Ae _,?_⟩;refine⟨by decide,_,rfl,?_⟩;refine⟨_,Ae _,?_⟩;refine⟨_,Ae _,?_⟩;refine⟨rfl,?_⟩;refine apO h rfl fun _ h=>?_;exact AN h
   refine⟨_,Ae _,?_⟩;refine⟨_,Ae _,?_⟩;refine⟨_,Ae _,?_⟩;refine⟨_,Ae _,?_⟩;refine⟨rfl,?_⟩;refine apO h rfl fun _ h=>?_;exact AN h
  rintro v17 h;refine apO h rfl fun _ h=>?_;refine⟨_,e11,?_⟩;exact p16 _ _ wk h
 rintro v9 h;refine⟨v9.length,Bi,?_⟩;refine goC ?_;refine AT h ?_ ?_<;>intro h
 ·(conv=>whnf);refine .inl ?_;refine⟨rfl,?_⟩;exact fin h
 (conv=>whnf);refine .inl ?_;refine⟨rfl,?_⟩;exact fin h
end Go.AX.Q19
end
