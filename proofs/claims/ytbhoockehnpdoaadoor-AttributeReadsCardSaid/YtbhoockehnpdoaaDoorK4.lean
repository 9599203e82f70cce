/-
  Texts of one proof, packed: L18Oa L18P L18Q L18R L18S L18T L18U L18V L18X L18W Q18P1 Q18P2 Q18P3 Q18P4 Q18P5 Q18P6 Q18P7 Q18P8 Q18P9 Q18P10 Q18P11.
-/
import Derived.Test.YtbhoockehnpdoaaDoorK3
set_option linter.all false
section
namespace Go.AX.Q18
open Go Go.AX
set_option maxRecDepth 8000
set_option linter.unusedVariables false
def WR3 (a0:Attrs) (v26:List (Int×(List UInt8))):Option ((List Unknown)×Int):=
 joinP (τ:=Bool) (fun k27=>
  if (!(Addr.eqd a0.Next (⟨false,(0:UInt64),(0:UInt64)⟩:Addr))) then
   k27 (cond true (!a0.Next.V6) false)
  else
   k27 false
 ) fun v28=>
 joinP (τ:=(List (Int×(List UInt8)))) (fun k29=>
  if v28 then
   Option.bind (ref01_Bytes a0.Next) fun v30=>
   k29 (mset v26 3 v30)
  else
   k29 v26
 ) fun v31=>
 joinP (τ:=(List (Int×(List UInt8)))) (fun k32=>
  if (decide (a0.MED ≥ 0)) then
   Option.bind (ref18_word a0.MED 4) fun v33=>
   k32 (mset v31 4 v33)
  else
   k32 v31
 ) fun v34=>
 joinP (τ:=(List (Int×(List UInt8)))) (fun k35=>
  if (decide (a0.Pref ≥ 0)) then
   Option.bind (ref18_word a0.Pref 4) fun v36=>
   k35 (mset v34 5 v36)
  else
   k35 v34
 ) fun v37=>
 joinP (τ:=(List (Int×(List UInt8)))×(List UInt8)) (fun k38=>
  Option.bind (chk ((mget v37 8).isNone=true)) fun _=>
  forR (σ:=(List (Int×(List UInt8)))×(List UInt8)) (fun (v39,v40)=>
   k38 (v39,v40)
  ) (fun next41 (x42:Community) i43 (v39,v40)=>
   Option.bind (ref18_word x42.A 2) fun v44=>
   Option.bind (apnd (α:=UInt8) 1 v40 v44) fun v45=>
   Option.bind (ref18_word x42.B 2) fun v46=>
   Option.bind (apnd (α:=UInt8) 1 v45 v46) fun v47=>
   next41 ((mset v39 8 v47),v47)
  ) a0.Communities 0 (v37,[])
 ) fun (v48,v49)=>
 joinP (τ:=(List (Int×(List UInt8)))×(List UInt8)) (fun k50=>
  Option.bind (chk ((mget v48 32).isNone=true)) fun _=>
  forR (σ:=(List (Int×(List UInt8)))×(List UInt8)) (fun (v51,v52)=>
   k50 (v51,v52)
  ) (fun next53 (x54:Large) i55 (v51,v52)=>
   Option.bind (ref18_word x54.A 4) fun v56=>
   Option.bind (apnd (α:=UInt8) 1 v52 v56) fun v57=>
   Option.bind (ref18_word x54.B 4) fun v58=>
   Option.bind (apnd (α:=UInt8) 1 v57 v58) fun v59=>
   Option.bind (ref18_word x54.C 4) fun v60=>
   Option.bind (apnd (α:=UInt8) 1 v59 v60) fun v61=>
   next53 ((mset v51 32 v61),v61)
  ) a0.Large 0 (v48,[])
 ) fun (v62,v63)=>
 joinP (τ:=(List (Int×(List UInt8)))) (fun k64=>
  if (decide (a0.OTC ≥ 0)) then
   Option.bind (ref18_word a0.OTC 4) fun v65=>
   k64 (mset v62 35 v65)
  else
   k64 v62
 ) fun v66=>
 joinP (τ:=(List Unknown)) (fun k67=>
  whileR (σ:=Int×(List Unknown)) (fun next68 (v69,v70)=>
   if (decide (v69 < 256)) then
    joinP (τ:=(List Unknown)) (fun k71=>
     Option.bind (some (Option.getD (mget v66 v69) [])) fun v72=>
     Option.bind (some (Option.isSome (mget v66 v69))) fun v73=>
     joinP (τ:=(List Unknown)) (fun k74=>
      if v73 then
       Option.bind (ref18_flags v69) fun v75=>
       Option.bind (apnd (α:=UInt8) 1 [] v72) fun _=>
       Option.bind (apnd (α:=Unknown) 40 v70 ([(⟨v75,v69,v72⟩:Unknown)]:List Unknown)) fun v76=>
       k74 v76
      else
       k74 v70
     ) fun v77=>
     joinP (τ:=(List Unknown)) (fun k78=>
      forR (σ:=(List Unknown)) (fun v79=>
       k78 v79
      ) (fun next80 (x81:Unknown) i82 v79=>
       joinP (τ:=(List Unknown)) (fun k83=>
        if (x81.Type_ == v69) then
         Option.bind (apnd (α:=UInt8) 1 [] x81.Data) fun _=>
         Option.bind (apnd (α:=Unknown) 40 v79 ([{ x81 with Type_:=v69 }]:List Unknown)) fun v84=>
         k83 v84
        else
         k83 v79
       ) fun v85=>
       next80 v85
      ) a0.Other 0 v77
     ) fun v86=>
     k71 v86
    ) fun v87=>
    next68 ((i64w (v69 + 1)),v87)
   else
    k67 v70
  ) fuel (0,[])
 ) fun v88=>
 some (v88,0)
def WR4 (a0:Attrs) (v31:List (Int×(List UInt8))):Option ((List Unknown)×Int):=
 joinP (τ:=(List (Int×(List UInt8)))) (fun k32=>
  if (decide (a0.MED ≥ 0)) then
   Option.bind (ref18_word a0.MED 4) fun v33=>
   k32 (mset v31 4 v33)
  else
   k32 v31
 ) fun v34=>
 joinP (τ:=(List (Int×(List UInt8)))) (fun k35=>
  if (decide (a0.Pref ≥ 0)) then
   Option.bind (ref18_word a0.Pref 4) fun v36=>
   k35 (mset v34 5 v36)
  else
   k35 v34
 ) fun v37=>
 joinP (τ:=(List (Int×(List UInt8)))×(List UInt8)) (fun k38=>
  Option.bind (chk ((mget v37 8).isNone=true)) fun _=>
  forR (σ:=(List (Int×(List UInt8)))×(List UInt8)) (fun (v39,v40)=>
   k38 (v39,v40)
  ) (fun next41 (x42:Community) i43 (v39,v40)=>
   Option.bind (ref18_word x42.A 2) fun v44=>
   Option.bind (apnd (α:=UInt8) 1 v40 v44) fun v45=>
   Option.bind (ref18_word x42.B 2) fun v46=>
   Option.bind (apnd (α:=UInt8) 1 v45 v46) fun v47=>
   next41 ((mset v39 8 v47),v47)
  ) a0.Communities 0 (v37,[])
 ) fun (v48,v49)=>
 joinP (τ:=(List (Int×(List UInt8)))×(List UInt8)) (fun k50=>
  Option.bind (chk ((mget v48 32).isNone=true)) fun _=>
  forR (σ:=(List (Int×(List UInt8)))×(List UInt8)) (fun (v51,v52)=>
   k50 (v51,v52)
  ) (fun next53 (x54:Large) i55 (v51,v52)=>
   Option.bind (ref18_word x54.A 4) fun v56=>
   Option.bind (apnd (α:=UInt8) 1 v52 v56) fun v57=>
   Option.bind (ref18_word x54.B 4) fun v58=>
   Option.bind (apnd (α:=UInt8) 1 v57 v58) fun v59=>
   Option.bind (ref18_word x54.C 4) fun v60=>
   Option.bind (apnd (α:=UInt8) 1 v59 v60) fun v61=>
   next53 ((mset v51 32 v61),v61)
  ) a0.Large 0 (v48,[])
 ) fun (v62,v63)=>
 joinP (τ:=(List (Int×(List UInt8)))) (fun k64=>
  if (decide (a0.OTC ≥ 0)) then
   Option.bind (ref18_word a0.OTC 4) fun v65=>
   k64 (mset v62 35 v65)
  else
   k64 v62
 ) fun v66=>
 joinP (τ:=(List Unknown)) (fun k67=>
  whileR (σ:=Int×(List Unknown)) (fun next68 (v69,v70)=>
   if (decide (v69 < 256)) then
    joinP (τ:=(List Unknown)) (fun k71=>
     Option.bind (some (Option.getD (mget v66 v69) [])) fun v72=>
     Option.bind (some (Option.isSome (mget v66 v69))) fun v73=>
     joinP (τ:=(List Unknown)) (fun k74=>
      if v73 then
       Option.bind (ref18_flags v69) fun v75=>
       Option.bind (apnd (α:=UInt8) 1 [] v72) fun _=>
       Option.bind (apnd (α:=Unknown) 40 v70 ([(⟨v75,v69,v72⟩:Unknown)]:List Unknown)) fun v76=>
       k74 v76
      else
       k74 v70
     ) fun v77=>
     joinP (τ:=(List Unknown)) (fun k78=>
      forR (σ:=(List Unknown)) (fun v79=>
       k78 v79
      ) (fun next80 (x81:Unknown) i82 v79=>
       joinP (τ:=(List Unknown)) (fun k83=>
        if (x81.Type_ == v69) then
         Option.bind (apnd (α:=UInt8) 1 [] x81.Data) fun _=>
         Option.bind (apnd (α:=Unknown) 40 v79 ([{ x81 with Type_:=v69 }]:List Unknown)) fun v84=>
         k83 v84
        else
         k83 v79
       ) fun v85=>
       next80 v85
      ) a0.Other 0 v77
     ) fun v86=>
     k71 v86
    ) fun v87=>
    next68 ((i64w (v69 + 1)),v87)
   else
    k67 v70
  ) fuel (0,[])
 ) fun v88=>
 some (v88,0)
def WR5 (a0:Attrs) (v34:List (Int×(List UInt8))):Option ((List Unknown)×Int):=
 joinP (τ:=(List (Int×(List UInt8)))) (fun k35=>
  if (decide (a0.Pref ≥ 0)) then
   Option.bind (ref18_word a0.Pref 4) fun v36=>
   k35 (mset v34 5 v36)
  else
   k35 v34
 ) fun v37=>
 joinP (τ:=(List (Int×(List UInt8)))×(List UInt8)) (fun k38=>
  Option.bind (chk ((mget v37 8).isNone=true)) fun _=>
  forR (σ:=(List (Int×(List UInt8)))×(List UInt8)) (fun (v39,v40)=>
   k38 (v39,v40)
  ) (fun next41 (x42:Community) i43 (v39,v40)=>
   Option.bind (ref18_word x42.A 2) fun v44=>
   Option.bind (apnd (α:=UInt8) 1 v40 v44) fun v45=>
   Option.bind (ref18_word x42.B 2) fun v46=>
   Option.bind (apnd (α:=UInt8) 1 v45 v46) fun v47=>
   next41 ((mset v39 8 v47),v47)
  ) a0.Communities 0 (v37,[])
 ) fun (v48,v49)=>
 joinP (τ:=(List (Int×(List UInt8)))×(List UInt8)) (fun k50=>
  Option.bind (chk ((mget v48 32).isNone=true)) fun _=>
  forR (σ:=(List (Int×(List UInt8)))×(List UInt8)) (fun (v51,v52)=>
   k50 (v51,v52)
  ) (fun next53 (x54:Large) i55 (v51,v52)=>
   Option.bind (ref18_word x54.A 4) fun v56=>
   Option.bind (apnd (α:=UInt8) 1 v52 v56) fun v57=>
   Option.bind (ref18_word x54.B 4) fun v58=>
   Option.bind (apnd (α:=UInt8) 1 v57 v58) fun v59=>
   Option.bind (ref18_word x54.C 4) fun v60=>
   Option.bind (apnd (α:=UInt8) 1 v59 v60) fun v61=>
   next53 ((mset v51 32 v61),v61)
  ) a0.Large 0 (v48,[])
 ) fun (v62,v63)=>
 joinP (τ:=(List (Int×(List UInt8)))) (fun k64=>
  if (decide (a0.OTC ≥ 0)) then
   Option.bind (ref18_word a0.OTC 4) fun v65=>
   k64 (mset v62 35 v65)
  else
   k64 v62
 ) fun v66=>
 joinP (τ:=(List Unknown)) (fun k67=>
  whileR (σ:=Int×(List Unknown)) (fun next68 (v69,v70)=>
   if (decide (v69 < 256)) then
    joinP (τ:=(List Unknown)) (fun k71=>
     Option.bind (some (Option.getD (mget v66 v69) [])) fun v72=>
     Option.bind (some (Option.isSome (mget v66 v69))) fun v73=>
     joinP (τ:=(List Unknown)) (fun k74=>
      if v73 then
       Option.bind (ref18_flags v69) fun v75=>
       Option.bind (apnd (α:=UInt8) 1 [] v72) fun _=>
       Option.bind (apnd (α:=Unknown) 40 v70 ([(⟨v75,v69,v72⟩:Unknown)]:List Unknown)) fun v76=>
       k74 v76
      else
       k74 v70
     ) fun v77=>
     joinP (τ:=(List Unknown)) (fun k78=>
      forR (σ:=(List Unknown)) (fun v79=>
       k78 v79
      ) (fun next80 (x81:Unknown) i82 v79=>
       joinP (τ:=(List Unknown)) (fun k83=>
        if (x81.Type_ == v69) then
         Option.bind (apnd (α:=UInt8) 1 [] x81.Data) fun _=>
         Option.bind (apnd (α:=Unknown) 40 v79 ([{ x81 with Type_:=v69 }]:List Unknown)) fun v84=>
         k83 v84
        else
         k83 v79
       ) fun v85=>
       next80 v85
      ) a0.Other 0 v77
     ) fun v86=>
     k71 v86
    ) fun v87=>
    next68 ((i64w (v69 + 1)),v87)
   else
    k67 v70
  ) fuel (0,[])
 ) fun v88=>
 some (v88,0)
def WR8 (a0:Attrs) (v37:List (Int×(List UInt8))):Option ((List Unknown)×Int):=
 joinP (τ:=(List (Int×(List UInt8)))×(List UInt8)) (fun k38=>
  Option.bind (chk ((mget v37 8).isNone=true)) fun _=>
  forR (σ:=(List (Int×(List UInt8)))×(List UInt8)) (fun (v39,v40)=>
   k38 (v39,v40)
  ) (fun next41 (x42:Community) i43 (v39,v40)=>
   Option.bind (ref18_word x42.A 2) fun v44=>
   Option.bind (apnd (α:=UInt8) 1 v40 v44) fun v45=>
   Option.bind (ref18_word x42.B 2) fun v46=>
   Option.bind (apnd (α:=UInt8) 1 v45 v46) fun v47=>
   next41 ((mset v39 8 v47),v47)
  ) a0.Communities 0 (v37,[])
 ) fun (v48,v49)=>
 joinP (τ:=(List (Int×(List UInt8)))×(List UInt8)) (fun k50=>
  Option.bind (chk ((mget v48 32).isNone=true)) fun _=>
  forR (σ:=(List (Int×(List UInt8)))×(List UInt8)) (fun (v51,v52)=>
   k50 (v51,v52)
  ) (fun next53 (x54:Large) i55 (v51,v52)=>
   Option.bind (ref18_word x54.A 4) fun v56=>
   Option.bind (apnd (α:=UInt8) 1 v52 v56) fun v57=>
   Option.bind (ref18_word x54.B 4) fun v58=>
   Option.bind (apnd (α:=UInt8) 1 v57 v58) fun v59=>
   Option.bind (ref18_word x54.C 4) fun v60=>
   Option.bind (apnd (α:=UInt8) 1 v59 v60) fun v61=>
   next53 ((mset v51 32 v61),v61)
  ) a0.Large 0 (v48,[])
 ) fun (v62,v63)=>
 joinP (τ:=(List (Int×(List UInt8)))) (fun k64=>
  if (decide (a0.OTC ≥ 0)) then
   Option.bind (ref18_word a0.OTC 4) fun v65=>
   k64 (mset v62 35 v65)
  else
   k64 v62
 ) fun v66=>
 joinP (τ:=(List Unknown)) (fun k67=>
  whileR (σ:=Int×(List Unknown)) (fun next68 (v69,v70)=>
   if (decide (v69 < 256)) then
    joinP (τ:=(List Unknown)) (fun k71=>
     Option.bind (some (Option.getD (mget v66 v69) [])) fun v72=>
     Option.bind (some (Option.isSome (mget v66 v69))) fun v73=>
     joinP (τ:=(List Unknown)) (fun k74=>
      if v73 then
       Option.bind (ref18_flags v69) fun v75=>
       Option.bind (apnd (α:=UInt8) 1 [] v72) fun _=>
       Option.bind (apnd (α:=Unknown) 40 v70 ([(⟨v75,v69,v72⟩:Unknown)]:List Unknown)) fun v76=>
       k74 v76
      else
       k74 v70
     ) fun v77=>
     joinP (τ:=(List Unknown)) (fun k78=>
      forR (σ:=(List Unknown)) (fun v79=>
       k78 v79
      ) (fun next80 (x81:Unknown) i82 v79=>
       joinP (τ:=(List Unknown)) (fun k83=>
        if (x81.Type_ == v69) then
         Option.bind (apnd (α:=UInt8) 1 [] x81.Data) fun _=>
         Option.bind (apnd (α:=Unknown) 40 v79 ([{ x81 with Type_:=v69 }]:List Unknown)) fun v84=>
         k83 v84
        else
         k83 v79
       ) fun v85=>
       next80 v85
      ) a0.Other 0 v77
     ) fun v86=>
     k71 v86
    ) fun v87=>
    next68 ((i64w (v69 + 1)),v87)
   else
    k67 v70
  ) fuel (0,[])
 ) fun v88=>
 some (v88,0)
def WRk (a0:Attrs) (v66:List (Int×(List UInt8))):Option ((List Unknown)×Int):=
 joinP (τ:=(List Unknown)) (fun k67=>
  whileR (σ:=Int×(List Unknown)) (fun next68 (v69,v70)=>
   if (decide (v69 < 256)) then
    joinP (τ:=(List Unknown)) (fun k71=>
     Option.bind (some (Option.getD (mget v66 v69) [])) fun v72=>
     Option.bind (some (Option.isSome (mget v66 v69))) fun v73=>
     joinP (τ:=(List Unknown)) (fun k74=>
      if v73 then
       Option.bind (ref18_flags v69) fun v75=>
       Option.bind (apnd (α:=UInt8) 1 [] v72) fun _=>
       Option.bind (apnd (α:=Unknown) 40 v70 ([(⟨v75,v69,v72⟩:Unknown)]:List Unknown)) fun v76=>
       k74 v76
      else
       k74 v70
     ) fun v77=>
     joinP (τ:=(List Unknown)) (fun k78=>
      forR (σ:=(List Unknown)) (fun v79=>
       k78 v79
      ) (fun next80 (x81:Unknown) i82 v79=>
       joinP (τ:=(List Unknown)) (fun k83=>
        if (x81.Type_ == v69) then
         Option.bind (apnd (α:=UInt8) 1 [] x81.Data) fun _=>
         Option.bind (apnd (α:=Unknown) 40 v79 ([{ x81 with Type_:=v69 }]:List Unknown)) fun v84=>
         k83 v84
        else
         k83 v79
       ) fun v85=>
       next80 v85
      ) a0.Other 0 v77
     ) fun v86=>
     k71 v86
    ) fun v87=>
    next68 ((i64w (v69 + 1)),v87)
   else
    k67 v70
  ) fuel (0,[])
 ) fun v88=>
 some (v88,0)
end Go.AX.Q18
end
section
namespace Go.AX.Q18
open Go Go.AX
set_option maxRecDepth 8000
theorem ent_len (a:Attrs) (k:Int):(ent a k).length ≤ 1:=by unfold ent;split<;>simp
theorem ofK_len (l:List Unknown) (k:Int):(ofK l k).length ≤ l.length:=flat_len (fun x=>by split<;>simp) l
structure Puts (m:List (Int×List UInt8)) (a:Attrs) (ks:List Int):Prop where
 h :∀k,mget m k=if k ∈ ks then G a k else none
theorem Puts.add {m:List (Int×List UInt8)} {a:Attrs} {ks:List Int} (p:Puts m a ks) (k:Int) {b:List UInt8} (hb:G a k=some b):Puts (mset m k b) a (k::ks):=⟨fun j=>by
 rw [mget_mset,p.h]
 by_cases h:j=k
 ·subst h;simp [hb]
 ·have:(j == k)=false:=by simpa using h
  rw [this];simp [h]⟩
theorem Puts.skip {m:List (Int×List UInt8)} {a:Attrs} {ks:List Int} (p:Puts m a ks) (k:Int) (hb:G a k=none):Puts m a (k::ks):=⟨fun j=>by
 rw [p.h]
 by_cases h:j=k
 ·subst h;simp [hb]
 ·simp [h]⟩
theorem putR {β ρ:Type} {w:β→List UInt8} {k:Int} {N:Nat} {K:List (Int×List UInt8)×List UInt8→Option ρ} {body:(List (Int×List UInt8)×List UInt8→Option ρ)→β→Nat→List (Int×List UInt8)×List UInt8→Option ρ} {l:List β} {m:List (Int×List UInt8)}
  {R:Option ρ} (hN:(l.flatMap w).length ≤ N) (hb :∀next x i m b,x ∈ l→b.length + (w x).length ≤ N→body next x i (m,b)=next (mset m k (b ++ w x),b ++ w x))
  (hK :∀m' b',(∀j,mget m' j=if l ≠ []∧j=k then some (l.flatMap w) else mget m j)→K (m',b')=R):forR K body l 0 (m,[])=R:=by
 have key :∀(t:List β) (i:Nat) (m:List (Int×List UInt8)) (b:List UInt8),(∀x ∈ t,x ∈ l)→b.length + (t.flatMap w).length ≤ N→∃m' b',forR K body t i (m,b)=K (m',b')∧∀j,mget m' j=if t ≠ []∧j=k then some (b ++ t.flatMap w) else mget m j:=by
  intro t
  induction t with
  | nil=>intro i m b _ _;exact ⟨m,b,rfl,fun j=>by simp⟩
  | cons x t ih=>
   intro i m b hx hl
   rw [List.flatMap_cons,List.length_append] at hl
   obtain ⟨m',b',e,h⟩:=ih (i + 1) (mset m k (b ++ w x)) (b ++ w x) (fun y hy=>hx y (List.mem_cons_of_mem _ hy)) (by rw [List.length_append];omega)
   refine ⟨m',b',?_,fun j=>?_⟩
   ·show body (fun s=>forR K body t (i + 1) s) x i (m,b)=_
    rw [hb _ x i m b (hx x (by simp)) (by omega)]
    exact e
   ·rw [h j,mget_mset]
    by_cases hj:j=k
    ·subst hj
     by_cases ht:t=[]
     ·subst ht;simp
     ·simp [ht,List.flatMap_cons]
    ·simp [hj]
 obtain ⟨m',b',e,h⟩:=key l 0 m [] (fun _ h=>h) (by simpa using hN)
 rw [e]
 exact hK m' b' fun j=>by rw [h j,List.nil_append]
theorem kindsR {a:Attrs} {m:List (Int×List UInt8)} {ρ:Type} {K:List Unknown→Option ρ} (hO:a.Other.length ≤ 1000000) (hd :∀x ∈ a.Other,x.Data.length ≤ 1000000) (hg :∀k b,G a k=some b→b.length ≤ 1000000)
  (hm :∀k,mget m k=G a k) :
  joinP (τ:=(List Unknown)) (fun k67=>
   whileR (σ:=Int×(List Unknown)) (fun next68 p=>match p with
    | (v69,v70)=>if (decide (v69 < 256))=true then
     joinP (τ:=(List Unknown)) (fun k71=>
      Option.bind (some (Option.getD (mget m v69) [])) fun v72=>
      Option.bind (some (Option.isSome (mget m v69))) fun v73=>
      joinP (τ:=(List Unknown)) (fun k74=>
       if v73=true then
        Option.bind (ref18_flags v69) fun v75=>
        Option.bind (apnd (α:=UInt8) 1 [] v72) fun _=>
        Option.bind (apnd (α:=Unknown) 40 v70 ([(⟨v75,v69,v72⟩:Unknown)]:List Unknown)) fun v76=>
        k74 v76
       else
        k74 v70
      ) fun v77=>
      joinP (τ:=(List Unknown)) (fun k78=>
       forR (σ:=(List Unknown)) (fun v79=>
        k78 v79
       ) (fun next80 (x81:Unknown) i82 v79=>
        joinP (τ:=(List Unknown)) (fun k83=>
         if (x81.Type_ == v69)=true then
          Option.bind (apnd (α:=UInt8) 1 [] x81.Data) fun _=>
          Option.bind (apnd (α:=Unknown) 40 v79 ([{ x81 with Type_:=v69 }]:List Unknown)) fun v84=>
          k83 v84
         else
          k83 v79
        ) fun v85=>
        next80 v85
       ) a.Other 0 v77
      ) fun v86=>
      k71 v86
     ) fun v87=>
     next68 ((i64w (v69 + 1)),v87)
    else
     k67 v70
   ) fuel (0,[])
  ) K=K (wrS a):=by
 rw [joinP_def]
 refine (whileR_eq (fun s:Int×List Unknown=>∃k:Nat,s.1=k∧k ≤ 256∧s.2.length ≤ k * 1000001) (fun s=>(256 - s.1).toNat) (fun s=>K (s.2 ++ (List.range' s.1.toNat (256 - s.1.toNat)).flatMap fun (k:Nat)=>ent a k ++ ofK a.Other k)) ?_ fuel (0,[]) ⟨0,rfl,by omega,by simp⟩ (lt_fuel (by simp only;omega))).trans rfl
 rintro next ⟨kk,v⟩ ⟨k,rfl,hk2,hv⟩ hn
 dsimp only at hv ⊢
 by_cases hk:k < 256
 ·rw [if_pos (by simp only [decide_eq_true_eq];omega),joinP_def,some_bind',some_bind',hm]
  have he:=ent_len a k
  have hent :∀q:List Unknown→Option ρ,joinP (τ:=(List Unknown)) (fun k74=>
       if (G a k).isSome=true then
        Option.bind (ref18_flags k) fun v75=>
        Option.bind (apnd (α:=UInt8) 1 [] ((G a k).getD [])) fun _=>
        Option.bind (apnd (α:=Unknown) 40 v ([(⟨v75,k,((G a k).getD [])⟩:Unknown)]:List Unknown)) fun v76=>
        k74 v76
       else
        k74 v
      ) q=q (v ++ ent a k):=by
   intro q
   rw [joinP_def]
   unfold ent
   cases hG:G a k with
   | none=>rw [if_neg (by decide),List.append_nil]
   | some b=>
    have:=hg k b hG
    rw [if_pos (show (some b).isSome=true from rfl),ref18_flags_eq,some_bind',Option.getD_some,apnd_some (by decide) (by simp;omega),some_bind',apnd_some (by decide) (by simp;omega),some_bind']
  rw [hent,joinP_def]
  have hlen:=ofK_len a.Other k
  refine (appR (g:=fun x:Unknown=>if (x.Type_ == (k:Int))=true then [x] else []) (N:=(k + 1) * 1000001) (by unfold ofK at hlen;rw [List.length_append];omega) fun next2 x i w hx hw=>?_).trans ?_
  ·rw [joinP_def]
   by_cases hc:(x.Type_ == (k:Int))=true
   ·rw [if_pos hc] at hw
    have:=hd x hx
    simp only [List.length_singleton] at hw
    rw [if_pos hc,if_pos hc,apnd_some (by decide) (by simp;omega),some_bind',apnd_some (by decide) (by simp;omega),some_bind']
    have e:x.Type_=(k:Int):=by simpa using hc
    rw [← e]
   ·rw [if_neg hc,if_neg hc,List.append_nil]
  ·show next (i64w ((k:Int) + 1),v ++ ent a k ++ ofK a.Other k)=_
   rw [i64w_id (by omega),hn _ ⟨k + 1,by simp,by omega,by simp only [List.length_append];omega⟩ (by simp only;omega)]
   have e1:((k:Int) + 1).toNat=k + 1:=by omega
   have e2:256 - k=(256 - (k + 1)) + 1:=by omega
   simp only [e1,Int.toNat_natCast]
   rw [e2,List.range'_succ,List.flatMap_cons,List.append_assoc,List.append_assoc,List.append_assoc]
 ·rw [if_neg (by simp only [decide_eq_true_eq];omega)]
  have:256 - (k:Int).toNat=0:=by omega
  rw [this]
  simp
structure VA (a:Attrs):Prop where
 O:validO a.Other=true
 o:-1 ≤ a.Origin∧a.Origin ≤ 2
 p:vpath a.Path=true
 n:a.Next.ok=true
 m:-1 ≤ a.MED∧a.MED ≤ 4294967295
 r:-1 ≤ a.Pref∧a.Pref ≤ 4294967295
 t:a.OTC=-1 ∨ (1 ≤ a.OTC∧a.OTC ≤ 4294967295)
 c:validC a.Communities=true
 l:validL a.Large=true
 e:a.Other.length ≤ 8
theorem VA_iff {a:Attrs}:validA a=true ↔ VA a:=by
 unfold validA numB
 simp only [Bool.and_eq_true,Bool.or_eq_true,decide_eq_true_eq]
 constructor
 ·rintro ⟨h1,h2,h3,h4,h5,h6,h7,h8,h9,h10⟩
  exact ⟨h1,h2,h3,h4,h5,h6,h7,h8,h9,h10⟩
 ·rintro ⟨h1,h2,h3,h4,h5,h6,h7,h8,h9,h10⟩
  exact ⟨h1,h2,h3,h4,h5,h6,h7,h8,h9,h10⟩
theorem vpath_sizes {p:List Segment} (h:vpath p=true):p.length ≤ tot p∧tot p ≤ 64:=by
 unfold vpath at h
 simp only [Bool.and_eq_true,List.all_eq_true,decide_eq_true_eq] at h
 refine ⟨?_,h.2⟩
 have h1:=h.1.1
 clear h
 induction p with
 | nil=>exact Nat.le_refl _
 | cons s t ih=>
  rw [tot_cons,List.length_cons]
  have h2:=ih fun x hx=>h1 x (List.mem_cons_of_mem _ hx)
  have h3:=h1 s (by simp)
  simp only [okSeg,Bool.and_eq_true,decide_eq_true_eq] at h3
  omega
theorem VA.sm {a:Attrs} (v:VA a):SmA a:=by
 obtain ⟨h1,h2⟩:=vpath_sizes v.p
 have h3:=(validC_iff.1 v.c).2.2
 have h4:=(validL_iff.1 v.l).2.2
 have h5:=v.e
 exact ⟨by omega,by omega,by omega,by omega,by omega,fun u hu=>by have:=(other_unk v.O hu).2.2.2.2;omega⟩
theorem G_len {a:Attrs} (v:VA a) {k:Int} {b:List UInt8} (h:G a k=some b):b.length ≤ 768:=by
 obtain ⟨h1,h2⟩:=vpath_sizes v.p
 have h3:=(validC_iff.1 v.c).2.2
 have h4:=(validL_iff.1 v.l).2.2
 unfold G at h
 split at h
 ·split at h
  ·obtain rfl:=Option.some.inj h;simp
  ·cases h
 split at h
 ·split at h
  ·obtain rfl:=Option.some.inj h;rw [pathB_len];omega
  ·cases h
 split at h
 ·split at h
  ·obtain rfl:=Option.some.inj h;simp [b4]
  ·cases h
 split at h
 ·split at h
  ·obtain rfl:=Option.some.inj h;rw [w4_len];omega
  ·cases h
 split at h
 ·split at h
  ·obtain rfl:=Option.some.inj h;rw [w4_len];omega
  ·cases h
 split at h
 ·split at h
  ·obtain rfl:=Option.some.inj h;rw [flatC_len];omega
  ·cases h
 split at h
 ·split at h
  ·obtain rfl:=Option.some.inj h;rw [flatL_len];omega
  ·cases h
 split at h
 ·split at h
  ·obtain rfl:=Option.some.inj h;rw [w4_len];omega
  ·cases h
 ·cases h
theorem Write_ref {a:Attrs} (v:VA a):ref18_Write a=some (wrS a,0):=by
 have hs:=vpath_sizes v.p
 have hc:=(validC_iff.1 v.c).2.2
 have hl:=(validL_iff.1 v.l).2.2
 unfold ref18_Write
 rw [Valid_ref v.sm,some_bind',VA_iff.2 v,if_neg (by decide)]
 have p0:Puts [] a []:=⟨fun k=>by simp [mget]⟩
 rw [joinP_ite]
 have p1:Puts (if decide (a.Origin ≥ 0)=true then mset ([]:List (Int×List UInt8)) (1:Int) [toU8 a.Origin] else []) a [1]:=by
  by_cases h:a.Origin ≥ 0
  ·rw [if_pos (by simpa using h)]
   exact p0.add 1 (by unfold G;rw [if_pos rfl,if_pos (by omega)])
  ·rw [if_neg (by simpa using h)]
   exact p0.skip 1 (by unfold G;rw [if_pos rfl,if_neg (by have:=v.o;omega)])
 generalize (if decide (a.Origin ≥ 0)=true then mset ([]:List (Int×List UInt8)) (1:Int) [toU8 a.Origin] else [])=m1 at p1
 rw [joinP_ite]
 have eb:(if decide (a.Origin ≥ 0)=true then true else (cond false true (decide ((a.Path.length:Int) > 0))))=decide (a.Origin ≠ -1 ∨ a.Path ≠ []):=by
  have:=v.o
  have e:(a.Path ≠ []) ↔ 0 < a.Path.length:=List.length_pos_iff.symm
  by_cases h:a.Origin ≥ 0
  ·rw [if_pos (by simpa using h),decide_eq_true (.inl (by omega))]
  ·rw [if_neg (by simpa using h),cond_false]
   have h1:a.Origin=-1:=by omega
   have e2:(a.Origin ≠ -1 ∨ a.Path ≠ []) ↔ 0 < a.Path.length:=by rw [e];omega
   rw [Bool.eq_iff_iff,decide_eq_true_eq,decide_eq_true_eq,e2]
   omega
 rw [eb,joinP_def]
 have step2 :∃m2,Puts m2 a [2,1]∧∀(ρ:Type) (q:List (Int×List UInt8)→Option ρ),(if decide (a.Origin ≠ -1 ∨ a.Path ≠ [])=true then q (mset m1 2 (pathB a.Path)) else q m1)=q m2:=by
  by_cases h:a.Origin ≠ -1 ∨ a.Path ≠ []
  ·exact ⟨_,p1.add 2 (by unfold G;rw [if_neg (by decide),if_pos rfl,if_pos h]),fun ρ q=>by rw [if_pos (by simpa using h)]⟩
  ·exact ⟨_,p1.skip 2 (by unfold G;rw [if_neg (by decide),if_pos rfl,if_neg h]),fun ρ q=>by rw [if_neg (by simpa using h)]⟩
 rw [path_ref (by omega)]
 obtain ⟨m2,p2,e2⟩:=step2
 refine (e2 _ (WR3 a)).trans ?_
 unfold WR3
 have en :∀{ρ:Type} (q:Bool→Option ρ),joinP (τ:=Bool) (fun k27=>if (!(Addr.eqd a.Next (⟨false,(0:UInt64),(0:UInt64)⟩:Addr)))=true then k27 (cond true (!a.Next.V6) false) else k27 false) q=q (hasNext a):=by
  intro ρ q
  rw [joinP_def]
  unfold hasNext
  cases a.Next.V6<;>cases Addr.eqd a.Next ⟨false,0,0⟩<;>rfl
 refine (en _).trans ?_
 rw [joinP_def]
 have step3 :∃m3,Puts m3 a [3,2,1]∧∀(ρ:Type) (q:List (Int×List UInt8)→Option ρ),(if hasNext a=true then Option.bind (ref01_Bytes a.Next) fun v30=>q (mset m2 3 v30) else q m2)=q m3:=by
  by_cases h:hasNext a=true
  ·have h6:a.Next.V6=false:=by
    unfold hasNext at h
    cases h6:a.Next.V6
    ·rfl
    ·rw [h6] at h;simp at h
   exact ⟨_,p2.add 3 (by unfold G;rw [if_neg (by decide),if_neg (by decide),if_pos rfl,if_pos h]),fun ρ q=>by rw [if_pos h,Bytes_ref v.n h6,some_bind']⟩
  ·exact ⟨_,p2.skip 3 (by unfold G;rw [if_neg (by decide),if_neg (by decide),if_pos rfl,if_neg h]),fun ρ q=>by rw [if_neg h]⟩
 obtain ⟨m3,p3,e3⟩:=step3
 refine (e3 _ (WR4 a)).trans ?_
 unfold WR4
 rw [joinP_def]
 have step4 :∃m4,Puts m4 a [4,3,2,1]∧∀(ρ:Type) (q:List (Int×List UInt8)→Option ρ),(if decide (a.MED ≥ 0)=true then Option.bind (ref18_word a.MED 4) fun v33=>q (mset m3 4 v33) else q m3)=q m4:=by
  have:=v.m
  by_cases h:a.MED ≥ 0
  ·exact ⟨_,p3.add 4 (by unfold G;rw [if_neg (by decide),if_neg (by decide),if_neg (by decide),if_pos rfl,if_pos (by omega)]),fun ρ q=>by rw [if_pos (by simpa using h),word4,some_bind']⟩
  ·exact ⟨_,p3.skip 4 (by unfold G;rw [if_neg (by decide),if_neg (by decide),if_neg (by decide),if_pos rfl,if_neg (by omega)]),fun ρ q=>by rw [if_neg (by simpa using h)]⟩
 obtain ⟨m4,p4,e4⟩:=step4
 refine (e4 _ (WR5 a)).trans ?_
 unfold WR5
 rw [joinP_def]
 have step5 :∃m5,Puts m5 a [5,4,3,2,1]∧∀(ρ:Type) (q:List (Int×List UInt8)→Option ρ),(if decide (a.Pref ≥ 0)=true then Option.bind (ref18_word a.Pref 4) fun v33=>q (mset m4 5 v33) else q m4)=q m5:=by
  have:=v.r
  by_cases h:a.Pref ≥ 0
  ·exact ⟨_,p4.add 5 (by unfold G;rw [if_neg (by decide),if_neg (by decide),if_neg (by decide),if_neg (by decide),if_pos rfl,if_pos (by omega)]),fun ρ q=>by rw [if_pos (by simpa using h),word4,some_bind']⟩
  ·exact ⟨_,p4.skip 5 (by unfold G;rw [if_neg (by decide),if_neg (by decide),if_neg (by decide),if_neg (by decide),if_pos rfl,if_neg (by omega)]),fun ρ q=>by rw [if_neg (by simpa using h)]⟩
 obtain ⟨m5,p5,e5⟩:=step5
 refine (e5 _ (WR8 a)).trans ?_
 unfold WR8
 have ck8:chk ((mget m5 8).isNone=true)=some ():=by
  have hn:mget m5 8=none:=by rw [p5.h,if_neg (by decide)]
  unfold chk
  rw [hn]
  rfl
 rw [joinP_def,ck8,some_bind']
 refine putR (w:=commB) (k:=8) (N:=1000000) (l:=a.Communities) (by rw [flatC_len];omega) (fun next x i m b _ hb=>by
  rw [commB_len] at hb
  dsimp only
  rw [word2,some_bind',apnd_some (by decide) (by simp [w2];omega),some_bind',word2,some_bind',apnd_some (by decide) (by simp [w2];omega),some_bind',List.append_assoc]
  rfl) fun m8 b8 h8=>?_
 have p8:Puts m8 a [8,5,4,3,2,1]:=⟨fun j=>by
  rw [h8 j,p5.h]
  by_cases hj:j=8
  ·subst hj
   have:G a 8=if a.Communities ≠ [] then some (a.Communities.flatMap commB) else none:=rfl
   simp [this]
  ·simp [hj]⟩
 dsimp only
 have ck32:chk ((mget m8 32).isNone=true)=some ():=by
  have hn:mget m8 32=none:=by rw [p8.h,if_neg (by decide)]
  unfold chk
  rw [hn]
  rfl
 rw [joinP_def,ck32,some_bind']
 refine putR (w:=largeB) (k:=32) (N:=1000000) (l:=a.Large) (by rw [flatL_len];omega) (fun next x i m b _ hb=>by
  rw [largeB_len] at hb
  dsimp only
  rw [word4,some_bind',apnd_some (by decide) (by simp [w4];omega),some_bind',word4,some_bind',apnd_some (by decide) (by simp [w4];omega),some_bind',word4,some_bind',apnd_some (by decide) (by simp [w4];omega),some_bind',List.append_assoc,List.append_assoc]
  rfl) fun m9 b9 h9=>?_
 have p9:Puts m9 a [32,8,5,4,3,2,1]:=⟨fun j=>by
  rw [h9 j,p8.h]
  by_cases hj:j=32
  ·subst hj
   have:G a 32=if a.Large ≠ [] then some (a.Large.flatMap largeB) else none:=rfl
   simp [this]
  ·simp [hj]⟩
 dsimp only
 rw [joinP_def]
 have step35 :∃m10,Puts m10 a [35,32,8,5,4,3,2,1]∧∀(ρ:Type) (q:List (Int×List UInt8)→Option ρ),(if decide (a.OTC ≥ 0)=true then Option.bind (ref18_word a.OTC 4) fun v33=>q (mset m9 35 v33) else q m9)=q m10:=by
  have:=v.t
  have hG:G a 35=if a.OTC ≠ -1 then some (w4 a.OTC) else none:=rfl
  by_cases h:a.OTC ≥ 0
  ·exact ⟨_,p9.add 35 (by rw [hG,if_pos (by omega)]),fun ρ q=>by rw [if_pos (by simpa using h),word4,some_bind']⟩
  ·exact ⟨_,p9.skip 35 (by rw [hG,if_neg (by omega)]),fun ρ q=>by rw [if_neg (by simpa using h)]⟩
 obtain ⟨m10,p10,e10⟩:=step35
 refine (e10 _ (WRk a)).trans ?_
 unfold WRk
 refine (kindsR (a:=a) (by have:=v.e;omega) (fun x hx=>by have:=(other_unk v.O hx).2.2.2.2;omega) (fun k b h=>by have:=G_len v h;omega) fun k=>?_).trans rfl
 rw [p10.h]
 split
 ·rfl
 ·rename_i hk
  simp only [List.mem_cons,List.not_mem_nil,or_false,not_or] at hk
  unfold G
  rw [if_neg hk.2.2.2.2.2.2.2,if_neg hk.2.2.2.2.2.2.1,if_neg hk.2.2.2.2.2.1,if_neg hk.2.2.2.2.1,if_neg hk.2.2.2.1,if_neg hk.2.2.1,if_neg hk.2.1,if_neg hk.1]
end Go.AX.Q18
end
section
namespace Go.AX.Q18
open Go Go.AX
set_option maxRecDepth 8000
theorem Write2_eq (a b:Unknown):attribute_Write_2 a b=some (lexC (keyU a) (keyU b)):=Read2_eq a b
def known8:List Int:=[1,2,3,4,5,8,32,35]
def outS (a:Attrs):List Unknown:=known8.flatMap (ent a) ++ a.Other
theorem ent_known {a:Attrs} {k:Int} {y:Unknown} (h:y ∈ ent a k):k ∈ known8:=by
 obtain ⟨b,hb,_⟩:=ent_mem.1 h
 rcases fl_cases k with ⟨e,_⟩ | ⟨e,_⟩ | ⟨e,_⟩ | ⟨e,_⟩ | ⟨e,_⟩ | ⟨e,_⟩ | ⟨e,_⟩ | ⟨e,_⟩ | e
 iterate 8 (subst e;decide)
 rw [G_none e.2.2.2.2.2.2.2.2] at hb;cases hb
theorem outS_mem {a:Attrs} {y:Unknown}:y ∈ outS a ↔ (∃k,y ∈ ent a k) ∨ y ∈ a.Other:=by
 unfold outS
 rw [List.mem_append,List.mem_flatMap]
 exact ⟨fun h=>h.imp_left fun ⟨k,_,h⟩=>⟨k,h⟩,fun h=>h.imp_left fun ⟨k,h⟩=>⟨k,ent_known h,h⟩⟩
theorem outS_dist {a:Attrs} (hO:validO a.Other=true):(outS a).Pairwise fun x y=>keyU x ≠ keyU y:=by
 unfold outS
 have hk :∀{x y:Unknown},x.Type_ ≠ y.Type_→keyU x ≠ keyU y:=fun h e=>h (by simpa [keyU] using e)
 refine List.pairwise_append.2 ⟨?_,(other_strict hO).imp fun {x y} h=>hk (by simp only [ltT,decide_eq_true_eq] at h;omega),fun x hx y hy=>hk fun e=>?_⟩
 ·rw [List.pairwise_flatMap]
  refine ⟨fun k _=>?_,?_⟩
  ·unfold ent
   split
   ·exact List.pairwise_singleton _ _
   ·exact .nil
  ·have:known8.Pairwise (· ≠ ·):=by decide
   exact this.imp fun {k j} h x hx y hy=>hk (by rw [ent_type hx,ent_type hy];exact h)
 ·obtain ⟨k,_,hx⟩:=List.mem_flatMap.1 hx
  obtain ⟨b,hb,_⟩:=ent_mem.1 hx
  have:=unk_fl (other_unk hO hy).1
  rw [← e,ent_type hx] at this
  rw [G_none this] at hb;cases hb
theorem outS_sort {a:Attrs} (hO:validO a.Other=true) (hl:(outS a).length ≤ 1000000):sortF attribute_Write_2 (outS a)=some (wrS a):=by
 obtain ⟨r,h1,h2,h3⟩:=sortF_K keyU_len Write2_eq (l:=outS a) (by omega)
 rw [h1]
 congr 1
 refine ltK_ext keyU_len (strict_of keyU_len h3 ?_) (wr_strict hO) fun x=>?_
 ·exact (h2.pairwise_iff fun h e=>h e.symm).2 (outS_dist hO)
 ·rw [h2.mem_iff,outS_mem,wr_mem hO]
theorem ent_len8 (a:Attrs):(known8.flatMap (ent a)).length ≤ 8:=flat_len (ent_len a) known8
end Go.AX.Q18
end
section
namespace Go.AX.Q18
open Go Go.AX
set_option maxRecDepth 8000
theorem Spoilt_plain {b:List UInt8} {x y:Int} (hb:b.length ≤ 1000000):Ok (make_Spoilt b x y) fun r=>r.length ≤ b.length + 1:=by
 unfold make_Spoilt
 refine .bind (Ok.apnd (by decide) (by simp;omega)) fun _ _=>.ite (fun _=>.ret (by simp)) fun h=>?_
 have hpos:0 < b.length:=by
  cases b with
  | nil=>simp at h
  | cons z t=>simp
 refine .bind (make_Mod_plain (by omega)) fun k hk=>.bind (make_Mod_plain (by omega)) fun q _=>?_
 refine .ite (fun _=>?_) fun _=>.ite (fun _=>?_) fun _=>.ite (fun _=>?_) fun _=>?_
 ·exact .bind (.geti (by omega)) fun _ _=>.bind (.seti (by omega)) fun r hr=>.ret (by omega)
 ·rw [i64w_id (x:=k + 1) (by omega)]
  refine .bind (Ok.chk (by omega)) fun _ _=>.bind (Ok.chk (by omega)) fun _ _=>.bind (Ok.apnd (by decide) (by simp only [List.length_take,List.length_drop];omega)) fun r hr=>.ret ?_
  rw [hr]
  simp only [List.length_append,List.length_take,List.length_drop]
  omega
 ·refine .bind (Ok.chk (by omega)) fun _ _=>.bind (Ok.apnd (by decide) (by simp only [List.length_nil,List.length_take,List.length_drop];omega)) fun _ _=>.bind (Ok.apnd (by decide) (by simp only [List.length_take,List.length_drop,List.length_singleton];omega)) fun r hr=>.bind (Ok.chk (by omega)) fun _ _=>.bind (Ok.apnd (by decide) (by rw [hr];simp only [List.length_append,List.length_take,List.length_drop,List.length_singleton];omega)) fun s hs=>.ret ?_
  rw [hs,hr]
  simp only [List.length_append,List.length_take,List.length_drop,List.length_singleton]
  omega
 ·refine .bind (.part (by omega)) fun r hr=>.ret ?_
  omega
theorem wr_len {a:Attrs} (v:VA a):(wrS a).length ≤ 16:=by
 have h:=sortF_len (outS_sort v.O (by unfold outS;rw [List.length_append];have:=ent_len8 a;have:=v.e;omega))
 rw [h]
 unfold outS
 rw [List.length_append]
 have:=ent_len8 a
 have:=v.e
 omega
theorem wr_data {a:Attrs} (v:VA a) {x:Unknown} (h:x ∈ wrS a):x.Data.length ≤ 768:=by
 rcases (wr_mem v.O).1 h with ⟨k,h⟩ | h
 ·obtain ⟨b,hb,rfl⟩:=ent_mem.1 h
  exact G_len v hb
 ·have:=(other_unk v.O h).2.2.2.2
  omega
theorem list_plain {d:Deck} (hd:Dk d):Ok (law18_list d) fun r=>r.1.length ≤ 19∧∀x ∈ r.1,x.Data.length ≤ 8000:=by
 unfold law18_list
 refine .bind (make_Attrs_plain hd) ?_
 rintro ⟨a,d⟩ ⟨⟨hv,_⟩,hd⟩
 dsimp only at hv hd ⊢
 have v:=VA_iff.1 hv
 rw [Write_ref v,some_bind']
 dsimp only
 refine .bind (make_Next_plain hd (by omega)) ?_
 rintro ⟨n,d⟩ ⟨n1,n2,hd⟩
 dsimp only at n1 n2 hd ⊢
 have hw:=wr_len v
 refine .join (fun q:List Unknown×Deck=>q.1.length ≤ 19∧∀x ∈ q.1,x.Data.length ≤ 8000) (fun k7 hk7=>?_) fun q hq=>.ret hq
 refine .whileI (fun s:List Unknown×Int×Deck=>((0 ≤ s.2.1∧s.2.1 ≤ 3)∧s.1.length + s.2.1.toNat ≤ 19∧∀x ∈ s.1,x.Data.length + 1 ≤ 800 * 2 ^ (3 - s.2.1.toNat))∧Dk s.2.2) (fun s=>s.2.1.toNat) ⟨⟨by dsimp only;omega,by dsimp only;omega,fun x hx=>?_⟩,hd⟩ (lt_fuel (by simp only;omega)) ?_
 ·have h1:=wr_data v hx
  have h2:800 * 2 ^ 0 ≤ 800 * 2 ^ (3 - n.toNat):=Nat.mul_le_mul_left _ (Nat.pow_le_pow_right (by omega) (by omega))
  dsimp only
  omega
 rintro next ⟨l,c,d⟩ ⟨⟨h1,h2,h3⟩,hd⟩ hnx
 dsimp only at h1 h2 h3 hd ⊢
 refine .ite (fun h=>?_) fun h=>?_
 rotate_left
 ·refine hk7 (l,d) ⟨by dsimp only;omega,fun x hx=>?_⟩
  have:=h3 x hx
  have h4:800 * 2 ^ (3 - c.toNat) ≤ 800 * 2 ^ 3:=Nat.mul_le_mul_left _ (Nat.pow_le_pow_right (by omega) (by omega))
  omega
 simp only [decide_eq_true_eq] at h
 obtain ⟨B,hB⟩ :∃B,B=800 * 2 ^ (3 - c.toNat):=⟨_,rfl⟩
 have hB2:800 * 2 ^ (3 - (c - 1).toNat)=2 * B:=by
  rw [hB,show 3 - (c - 1).toNat=(3 - c.toNat) + 1 by omega,Nat.pow_succ];omega
 have hB3:800 ≤ B:=by
  have h4:800 * 2 ^ 0 ≤ 800 * 2 ^ (3 - c.toNat):=Nat.mul_le_mul_left _ (Nat.pow_le_pow_right (by omega) (by omega))
  omega
 have hB4:B ≤ 6400:=by
  have h4:800 * 2 ^ (3 - c.toNat) ≤ 800 * 2 ^ 3:=Nat.mul_le_mul_left _ (Nat.pow_le_pow_right (by omega) (by omega))
  omega
 rw [← hB] at h3
 refine .bind (make_Next_plain hd (by omega)) ?_
 rintro ⟨v1,d⟩ ⟨a1,a2,hd⟩
 dsimp only at a1 a2 hd ⊢
 refine .bind (.geti (by simp only [List.length_cons,List.length_nil];omega)) fun f _=>.bind (make_Next_plain hd (by omega)) ?_
 rintro ⟨v2,d⟩ ⟨a3,a4,hd⟩
 dsimp only at a3 a4 hd ⊢
 refine .bind (.geti (by simp only [List.length_cons,List.length_nil];omega)) fun t _=>.bind (make_Bytes_plain hd (by omega)) ?_
 rintro ⟨b,d⟩ ⟨hb,hd⟩
 dsimp only at hb hd ⊢
 refine .join (fun q:Bool×Deck=>(q.1=true→0 < l.length)∧Dk q.2) (fun k20 hk20=>.ite (fun hl=>?_) fun _=>hk20 _ ⟨by simp,hd⟩) ?_
 ·simp only [decide_eq_true_eq] at hl
  refine .bind (make_Next_plain hd (by omega)) ?_
  rintro ⟨v3,d⟩ ⟨_,_,hd⟩
  exact hk20 _ ⟨fun _=>by omega,hd⟩
 rintro ⟨old,d⟩ ⟨ho,hd⟩
 dsimp only at ho hd ⊢
 refine .join (fun q:Deck×Unknown=>q.2.Data.length + 1 ≤ 2 * B∧Dk q.1) (fun k25 hk25=>.ite (fun hc=>?_) fun _=>hk25 _ ⟨by dsimp only;omega,hd⟩) ?_
 ·have hl:=ho hc
  refine .bind (make_Next_plain hd (by omega)) ?_
  rintro ⟨v4,d⟩ ⟨a5,a6,hd⟩
  dsimp only at a5 a6 hd ⊢
  refine .bind (.geti (by omega)) fun x hx=>.bind (make_Next_plain hd (by omega)) ?_
  have hxl:=h3 x hx.1
  rintro ⟨v5,d⟩ ⟨a7,a8,hd⟩
  dsimp only at a7 a8 hd ⊢
  refine .join (fun q:Deck×Unknown=>q.2.Data.length + 1 ≤ 2 * B∧Dk q.1) (fun k31 hk31=>.ite (fun _=>?_) fun _=>?_) fun q hq=>hk25 _ hq
  ·refine .bind (make_Next_plain hd (by omega)) ?_
   rintro ⟨v6,d⟩ ⟨a9,a10,hd⟩
   dsimp only at a9 a10 hd ⊢
   exact .bind (.geti (by simp only [List.length_cons,List.length_nil];omega)) fun g _=>hk31 _ ⟨by dsimp only;omega,hd⟩
  ·refine .join (fun q:Deck×List UInt8=>q.2.length + 1 ≤ 2 * B∧Dk q.1) (fun k35 hk35=>.ite (fun _=>?_) fun _=>?_) fun q hq=>hk31 _ hq
   ·refine .bind (make_Next_plain hd (by omega)) ?_
    rintro ⟨v6,d⟩ ⟨_,_,hd⟩
    dsimp only at hd ⊢
    refine .bind (make_Next_plain hd (by omega)) ?_
    rintro ⟨v7,d⟩ ⟨_,_,hd⟩
    dsimp only at hd ⊢
    exact .bind (Spoilt_plain (by omega)) fun r hr=>hk35 _ ⟨by dsimp only;omega,hd⟩
   ·refine .join (fun q:List UInt8=>q.length + 1 ≤ 2 * B) (fun k41 hk41=>.ite (fun _=>?_) fun _=>hk41 _ (by omega)) fun q hq=>hk35 _ ⟨hq,hd⟩
    refine .bind (Ok.apnd (by decide) (by simp;omega)) fun _ _=>.bind (Ok.apnd (by decide) (by omega)) fun r hr=>hk41 _ ?_
    rw [hr,List.length_append]
    omega
 rintro ⟨d,x⟩ ⟨hx,hd⟩
 dsimp only at hx hd ⊢
 rw [i64w_id (x:=(l.length:Int) + 1) (by omega)]
 refine .bind (make_Next_plain hd (by omega)) ?_
 rintro ⟨i,d⟩ ⟨i1,i2,hd⟩
 dsimp only at i1 i2 hd ⊢
 refine .bind (.part (by omega)) fun p hp=>.bind (Ok.apnd (by decide) (by simp only [List.length_nil];omega)) fun _ _=>.bind (Ok.apnd (by decide) (by simp only [List.length_singleton];omega)) fun p2 hp2=>.bind (.part (by omega)) fun q hq=>.bind (Ok.apnd (by decide) (by rw [hp2];simp only [List.length_append,List.length_singleton];omega)) fun r hr=>?_
 rw [i64w_id (by omega)]
 have hlen:r.length=l.length + 1:=by
  rw [hr,hp2]
  simp only [List.length_append,List.length_singleton]
  omega
 refine hnx _ ⟨⟨by dsimp only;omega,by dsimp only;omega,fun y hy=>?_⟩,hd⟩ (by dsimp only;omega)
 dsimp only
 rw [hB2]
 rw [hr,hp2] at hy
 rcases List.mem_append.1 hy with hy | hy
 ·rcases List.mem_append.1 hy with hy | hy
  ·rw [hp.1] at hy
   have:=h3 y (List.mem_of_mem_drop (List.mem_of_mem_take hy))
   omega
  ·rw [List.mem_singleton] at hy
   subst hy
   omega
 ·rw [hq.1] at hy
  have:=h3 y (List.mem_of_mem_drop (List.mem_of_mem_take hy))
  omega
theorem New_eq (l:List Int):make_New l=some ⟨l,0⟩:=rfl
theorem attributeReads (l:List Int) (x y:Int) (hl:l.length ≤ maxLen):law18_AttributeReads l x y=some true:=by
 have hd:Dk ⟨l,0⟩:=⟨Int.le_refl _,Nat.le_trans hl (by decide)⟩
 have main:Ok (law18_AttributeReads l x y) fun r=>r=true:=by
  unfold law18_AttributeReads
  rw [New_eq,some_bind']
  refine .bind (list_plain hd) ?_
  rintro ⟨v,d⟩ ⟨h1,h2⟩
  dsimp only at h1 h2 ⊢
  refine .bind (make_Mod_plain (by omega)) fun m hm=>?_
  rw [i64w_id (x:=7 + m) (by omega)]
  refine .join (fun q:List Unknown=>q.length ≤ 10∧∀u ∈ q,u.Data.length ≤ 1) (fun k5 hk5=>?_) ?_
  ·refine .whileI (fun s:Int×List Unknown=>(0 ≤ s.1∧s.1 ≤ 10∧s.2.length ≤ s.1.toNat)∧∀u ∈ s.2,u.Data.length ≤ 1) (fun s=>(10 - s.1).toNat) ⟨⟨by simp,by simp,by simp⟩,by simp⟩ (lt_fuel (by simp only;omega)) ?_
   rintro next ⟨i,q⟩ ⟨⟨g1,g2,g3⟩,g4⟩ hnx
   dsimp only at g1 g2 g3 g4 ⊢
   refine .ite (fun h=>?_) fun _=>hk5 _ ⟨by omega,g4⟩
   simp only [decide_eq_true_eq] at h
   refine .bind (Ok.apnd (by decide) (by simp only [List.length_singleton];omega)) fun r hr=>?_
   rw [i64w_id (x:=i + 1) (by omega)]
   refine hnx _ ⟨⟨by dsimp only;omega,by dsimp only;omega,by rw [hr];simp only [List.length_append,List.length_singleton];omega⟩,fun u hu=>?_⟩ (by dsimp only;omega)
   dsimp only at hu
   rw [hr] at hu
   rcases List.mem_append.1 hu with hu | hu
   ·exact g4 u hu
   ·rw [List.mem_singleton] at hu
    subst hu
    simp
  rintro q ⟨q1,q2⟩
  refine .bind (Ok.apnd (by decide) (by simp;omega)) fun _ _=>.bind (Ok.apnd (by decide) (by omega)) fun u hu=>.bind (Ok.apnd (by decide) (by simp;omega)) fun _ _=>.bind (make_Mod_plain (by omega)) fun m2 hm2=>?_
  rw [i64w_id (x:=254 + m2) (by omega)]
  refine .bind (Ok.chk (by omega)) fun _ _=>.bind (Ok.apnd (by decide) (by simp only [List.length_singleton];omega)) fun w hw=>?_
  have sm :∀z ∈ [v,u,w],Sm z:=by
   intro z hz
   simp only [List.mem_cons,List.not_mem_nil,or_false] at hz
   rcases hz with rfl | rfl | rfl
   ·exact ⟨by omega,fun t ht=>by have:=h2 t ht;omega⟩
   ·rw [hu]
    refine ⟨by rw [List.length_append];omega,fun t ht=>?_⟩
    rcases List.mem_append.1 ht with ht | ht
    ·have:=q2 t ht;omega
    ·have:=h2 t ht;omega
   ·rw [hw]
    refine ⟨by rw [List.length_append,List.length_singleton];omega,fun t ht=>?_⟩
    rcases List.mem_append.1 ht with ht | ht
    ·have:=h2 t ht;omega
    ·rw [List.mem_singleton] at ht
     subst ht
     simp only [List.length_replicate]
     omega
  refine .join (fun _=>True) (fun k14 hk14=>.for_ (fun _=>hk14 _ trivial) fun next z i _ _ hz hn=>?_) fun _ _=>?_
  ·rw [Read_gen (sm z hz),some_bind',Read_ref (sm z hz),some_bind']
   rw [Same_refl,joinP_def,some_bind',if_neg (by decide)]
   show Ok (if (cond false true ((rdS z).2 != (rdS z).2))=true then _ else _) _
   rw [bne_self_eq_false,if_neg (by decide)]
   exact hn _
  ·rw [awake,some_bind']
   exact .ret rfl
 obtain ⟨r,h1,h2⟩:=main
 rw [h1,h2]
end Go.AX.Q18
end
section
namespace Go.AX.Q18
open Go Go.AX
set_option maxRecDepth 8000
theorem or_step {u v:Nat} (hu:u < 2 ^ 64) (hv:v < 256):toU64 ((BitVec.ofInt 64 ((toU64 ((u:Int) * (2 ^ (min (Int.toNat 8) 64)))).toNat:Int) ||| BitVec.ofInt 64 ((toU64 (v:Int)).toNat:Int)).toNat:Int)=UInt64.ofNat (u * 256 + v):=by
 have h1:((u:Int) * (2 ^ (min (Int.toNat 8) 64)))=((u * 256:Nat):Int):=by
  have:min (Int.toNat 8) 64=8:=rfl
  rw [this];omega
 rw [h1,toU64_nat,toU64_nat,toU64_nat]
 have h2:(UInt64.ofNat v).toNat=v:=by simp only [UInt64.toNat_ofNat'];omega
 have h3:(UInt64.ofNat (u * 256)).toNat=2 ^ 8 * (u % 2 ^ 56):=by simp only [UInt64.toNat_ofNat'];omega
 rw [h2,h3,BitVec.ofInt_natCast,BitVec.ofInt_natCast,BitVec.toNat_or,BitVec.toNat_ofNat,BitVec.toNat_ofNat,Nat.mod_eq_of_lt (show 2 ^ 8 * (u % 2 ^ 56) < 2 ^ 64 by omega),Nat.mod_eq_of_lt (show v < 2 ^ 64 by omega),
  ← Nat.two_pow_add_eq_or_of_lt (show v < 2 ^ 8 by omega)]
 apply UInt64.toNat_inj.1
 simp only [UInt64.toNat_ofNat']
 omega
theorem hi_step {h l:UInt64} (hh:h.toNat=0) (hl:l.toNat < 72057594037927936):(toU64 ((BitVec.ofInt 64 ((toU64 ((h.toNat:Int) * (2 ^ (min (Int.toNat 8) 64)))).toNat:Int) ||| BitVec.ofInt 64 ((toU64 (Int.fdiv (l.toNat:Int) (2 ^ (min (Int.toNat 56) 64)))).toNat:Int)).toNat:Int))=0:=by
 have e1:Int.fdiv (l.toNat:Int) (2 ^ (min (Int.toNat 56) 64))=((l.toNat / 2 ^ (min 56 64):Nat):Int):=fd l.toNat 56
 have e2:l.toNat / 2 ^ (min 56 64)=0:=Nat.div_eq_of_lt hl
 rw [e1,e2,hh]
 have e3:(((0:Nat):Int) * (2 ^ (min (Int.toNat 8) 64)))=((0:Nat):Int):=by simp
 rw [e3,toU64_nat]
 rfl
def fbStep (v4:Addr) (x6:UInt8):Addr:=⟨v4.V6,(toU64 ((BitVec.ofInt 64 ((toU64 ((v4.Hi.toNat:Int) * (2 ^ (min (Int.toNat 8) 64)))).toNat:Int) ||| BitVec.ofInt 64 ((toU64 (Int.fdiv (v4.Lo.toNat:Int) (2 ^ (min (Int.toNat 56) 64)))).toNat:Int)).toNat:Int)),(toU64 ((BitVec.ofInt 64 ((toU64 ((v4.Lo.toNat:Int) * (2 ^ (min (Int.toNat 8) 64)))).toNat:Int) ||| BitVec.ofInt 64 ((toU64 (x6.toNat:Int)).toNat:Int)).toNat:Int))⟩
theorem fb_step {m:Nat} (hm:m < 16777216) (x:UInt8):fbStep ⟨false,0,UInt64.ofNat m⟩ x=⟨false,0,UInt64.ofNat (m * 256 + x.toNat)⟩:=by
 have e:(UInt64.ofNat m).toNat=m:=by rw [UInt64.toNat_ofNat'];omega
 unfold fbStep
 dsimp only
 rw [hi_step rfl (by omega),or_step (by omega) x.toNat_lt,e]
end Go.AX.Q18
end
section
namespace Go.AX.Q18
open Go Go.AX
set_option maxRecDepth 8000
end Go.AX.Q18
end
section
namespace Go.AX.Q18
open Go Go.AX
set_option maxRecDepth 8000
end Go.AX.Q18
end
section
namespace Go.AX.Q18
open Go Go.AX
set_option maxRecDepth 8000
def sizeOf (b:List UInt8) (h:Nat):Nat:=val ((b.drop 2).take (h - 2))
end Go.AX.Q18
end
section
namespace Go.AX.Q18
open Go Go.AX
set_option maxRecDepth 8000
theorem addrOf_ok {d:List UInt8} (h:d.length=4):(addrOf d).ok=true:=by
 match d,h with
 | [a,b,c,e],_=>
  have h1 :∀K:Addr→Option (Addr×Int),forR (σ:=Addr) (fun v4=>K v4) (fun next5 x6 _ v4=>next5 (fbStep v4 x6)) [a,b,c,e] 0 ⟨false,0,UInt64.ofNat 0⟩=K ⟨false,0,UInt64.ofNat (val [a,b,c,e])⟩:=by
   intro K
   have ha:=a.toNat_lt
   have hb:=b.toNat_lt
   have hc:=c.toNat_lt
   rw [foldR]
   rw [List.foldl_cons,fb_step (by omega),List.foldl_cons,fb_step (by omega),List.foldl_cons,fb_step (by omega),List.foldl_cons,fb_step (by omega),List.foldl_nil]
   rfl
  have main:addr_FromBytes [a,b,c,e]=some (⟨false,0,UInt64.ofNat (val [a,b,c,e])⟩,0):=h1 fun v8=>some (v8,0)
  have hv:=val_lt [a,b,c,e]
  simp only [List.length_cons,List.length_nil] at hv
  unfold addrOf
  rw [main]
  show Addr.ok ⟨false,0,UInt64.ofNat (val [a,b,c,e])⟩=true
  have e2:(UInt64.ofNat (val [a,b,c,e])).toNat=val [a,b,c,e]:=by rw [UInt64.toNat_ofNat'];omega
  have e3:decide (((UInt64.ofNat (val [a,b,c,e])).toNat:Int) < 4294967296)=true:=decide_eq_true (by rw [e2];omega)
  unfold Addr.ok
  dsimp only
  rw [e3]
  rfl
structure VB (a:Attrs):Prop where
 o:-1 ≤ a.Origin∧a.Origin ≤ 2
 p:vpath a.Path=true
 n:a.Next.ok=true
 m:-1 ≤ a.MED∧a.MED ≤ 4294967295
 r:-1 ≤ a.Pref∧a.Pref ≤ 4294967295
 t:a.OTC=-1 ∨ (1 ≤ a.OTC∧a.OTC ≤ 4294967295)
 c:validC a.Communities=true
 l:validL a.Large=true
theorem VB.empty:VB eA:=⟨by decide,rfl,by decide,by decide,by decide,.inl rfl,rfl,rfl⟩
theorem VB.step {a a':Attrs} {x:Unknown} (v:VB a) (hd:x.Data.length ≤ 1000000) (h:stepS a x=some a'):VB a':=by
 unfold stepS at h
 split at h
 ·obtain rfl:=Option.some.inj h
  exact v
 split at h
 rotate_left
 ·cases h
 unfold readS at h
 split at h
 ·obtain ⟨n,hn,rfl⟩:=Option.map_eq_some_iff.1 h
  unfold rdOrigin at hn
  split at hn
  ·rename_i hc
   obtain rfl:=Option.some.inj hn
   have:0 ≤ getB x.Data:=by rw [getB_eq (by omega)];omega
   exact ⟨⟨by dsimp only;omega,hc.2⟩,v.p,v.n,v.m,v.r,v.t,v.c,v.l⟩
  ·cases hn
 split at h
 ·obtain ⟨n,hn,rfl⟩:=Option.map_eq_some_iff.1 h
  unfold rdPath at hn
  cases hq:rdL x.Data [] with
  | none=>rw [hq] at hn;cases hn
  | some p=>
   rw [hq,Option.bind_some] at hn
   have hs:=rdL_size hd hq
   rw [validP_eq (by omega) (by omega)] at hn
   split at hn
   ·obtain rfl:=Option.some.inj hn
    exact ⟨v.o,‹_›,v.n,v.m,v.r,v.t,v.c,v.l⟩
   ·cases hn
 split at h
 ·obtain ⟨n,hn,rfl⟩:=Option.map_eq_some_iff.1 h
  unfold rdNext at hn
  split at hn
  ·obtain rfl:=Option.some.inj hn
   exact ⟨v.o,v.p,addrOf_ok ‹_›,v.m,v.r,v.t,v.c,v.l⟩
  ·cases hn
 split at h
 ·obtain ⟨n,hn,rfl⟩:=Option.map_eq_some_iff.1 h
  unfold rd4 at hn
  split at hn
  ·obtain rfl:=Option.some.inj hn
   have:=rdOTC_rng ‹_›
   exact ⟨v.o,v.p,v.n,⟨by dsimp only;omega,by dsimp only;omega⟩,v.r,v.t,v.c,v.l⟩
  ·cases hn
 split at h
 ·obtain ⟨n,hn,rfl⟩:=Option.map_eq_some_iff.1 h
  unfold rd4 at hn
  split at hn
  ·obtain rfl:=Option.some.inj hn
   have:=rdOTC_rng ‹_›
   exact ⟨v.o,v.p,v.n,v.m,⟨by dsimp only;omega,by dsimp only;omega⟩,v.t,v.c,v.l⟩
  ·cases hn
 split at h
 ·obtain ⟨n,hn,rfl⟩:=Option.map_eq_some_iff.1 h
  unfold rdComm at hn
  split at hn
  ·rename_i hc
   obtain rfl:=Option.some.inj hn
   exact ⟨v.o,v.p,v.n,v.m,v.r,v.t,canC_valid (comms_ok _) (by rw [comms_len];omega),v.l⟩
  ·cases hn
 split at h
 ·obtain ⟨n,hn,rfl⟩:=Option.map_eq_some_iff.1 h
  unfold rdLarge at hn
  split at hn
  ·rename_i hc
   obtain rfl:=Option.some.inj hn
   exact ⟨v.o,v.p,v.n,v.m,v.r,v.t,v.c,canL_valid (larges_ok _ (nums_rng _)) (by rw [larges_len,nums_len];omega)⟩
  ·cases hn
 split at h
 ·obtain ⟨n,hn,rfl⟩:=Option.map_eq_some_iff.1 h
  unfold rdOTC at hn
  split at hn
  ·rename_i hc
   obtain rfl:=Option.some.inj hn
   have:=rdOTC_rng hc.1
   have:=hc.2
   exact ⟨v.o,v.p,v.n,v.m,v.r,.inr ⟨by dsimp only;omega,by dsimp only;omega⟩,v.c,v.l⟩
  ·cases hn
 ·obtain rfl:=Option.some.inj h
  exact v
end Go.AX.Q18
end
section
namespace Go.AX.Q18
open Go Go.AX
def okIs (l:List Int):Prop:=l.length ≤ maxLen∧l.length * 8 ≤ reachBytes∧∀a ∈ l,I64 a
theorem attributeReadsW (l:List Int) (x y:Int) (h:okIs l) (_:I64 x) (_:I64 y):law18_AttributeReads l x y=some true:=attributeReads l x y h.1
end Go.AX.Q18
end
section
namespace Go.AX.Q18
open Go Go.AX Go.Proofs
set_option maxRecDepth 100000
set_option maxHeartbeats 4000000
set_option linter.unusedVariables false
theorem make_New_ok {wl:Prop} {a0:List Int} {r:Deck} (h:make_New a0=some r):CallsOK (Wl wl) Tryd.prog 9 [AV.d (D.l 1 D.i a0)] [] (.ref 0 0) [.box (Deck.av r)]:=by
 refine ok Tryd.f9 (by kernel_rfl) (by kernel_rfl) ⟨rfl,?_⟩;unfold make_New at h;cases h;exact ⟨rfl,rfl⟩
theorem make_Mod_ok {wl:Prop} {a0:Int} {a1:Int} {r:Int} (h:make_Mod a0 a1=some r):CallsOK (Wl wl) Tryd.prog 11 [AV.d (D.i a0),AV.d (D.i a1)] [] (.d (D.i r)) []:=by
 refine ok Tryd.f11 (by kernel_rfl) (by kernel_rfl) ⟨rfl,?_⟩;unfold make_Mod at h;obtain ⟨_,g1,h⟩:=bind_inv h;refine ⟨chk_inv g1,_,rfl,?_⟩;revert h;refine cut_join (fun v2=>⟨dd 5 (AV.d (D.i v2)::dd 9 ([])),nn 15 ([])⟩) ?_ ?_
 ·intro k3 h;revert h;refine sel_if ?_ ?_<;>intro h
  ·refine ⟨_,rfl,?_⟩;exact join_end wk h
  ·exact join_end wk h
 ·rintro v2 h;cases h;exact ⟨rfl,rfl⟩
theorem make_Spoilt_ok {wl:Prop} {a0:List UInt8} {a1:Int} {a2:Int} {r:(List UInt8)} (h:make_Spoilt a0 a1 a2=some r):CallsOK (Wl wl) Tryd.prog 18 [AV.d (D.l 1 D.u8 a0),AV.d (D.i a1),AV.d (D.i a2)] [] (.d (D.l 1 D.u8 r)) []:=by
 refine ok Tryd.f18 (by kernel_rfl) (by kernel_rfl) ⟨rfl,?_⟩;unfold make_Spoilt at h;obtain ⟨_,g1,h⟩:=bind_inv h;refine ⟨apnd_b0 (g:=D.u8) g1,?_⟩;refine ⟨a0.length,by first | exact List.length_map _ | rfl | (simp only [List.length_map];omega),?_⟩;(conv=>whnf);refine .go ?_;revert h;refine sel_if ?_ ?_<;>intro h
 ·refine ⟨_,u8_wrap _,?_⟩;(conv=>whnf);refine .inl ?_;(conv=>whnf);refine .inl ?_;refine ⟨rfl,?_⟩;cases h;exact ⟨rfl,rfl⟩
 ·refine ⟨a0.length,by first | exact List.length_map _ | rfl | (simp only [List.length_map];omega),?_⟩;obtain ⟨v2,g3,h⟩:=bind_inv h;refine ⟨_,_,some [],make_Mod_ok g3,?_⟩;refine ⟨by decide,_,rfl,?_⟩;obtain ⟨v4,g5,h⟩:=bind_inv h;refine ⟨_,_,some [],make_Mod_ok g5,?_⟩;(conv=>whnf);refine .go ?_;(conv=>whnf);refine .go ?_;revert h;refine sel_if ?_ ?_<;>intro h
  ·refine ⟨_,u8_wrap _,?_⟩;obtain ⟨v6,g7,h⟩:=bind_inv h;refine ⟨rfl,geti_b (f:=D.u8) g7,?_⟩;obtain ⟨v8,g9,h⟩:=bind_inv h;have g9l:=seti_len g9;refine ⟨rfl,rfl,D.u8 v6,(geti_d (f:=D.u8) g7),?_⟩;refine ⟨_,seti_z (f:=D.u8) g9,?_⟩;(conv=>whnf);refine .inl ?_;(conv=>whnf);refine .inl ?_;refine ⟨(by first | rfl | (simp only [List.length_map];omega) | (simp only [List.length_map,List.length_set,List.length_append,List.length_take,List.length_drop,List.length_replicate];omega)),?_⟩;cases h;exact ⟨rfl,rfl⟩
  ·(conv=>whnf);refine .go ?_;revert h;refine sel_if ?_ ?_<;>intro h
   ·(conv=>whnf);refine .inl (dOB (by kernel_rfl) ?_);(conv=>whnf);refine .inr (.inl ?_);obtain ⟨_,g10,h⟩:=bind_inv h;have g12c:=chk_inv g10;refine ⟨view_b (f:=D.u8) g10,rfl,(Int.toNat 0),(Int.toNat v2 - Int.toNat 0),rfl,rfl,?_⟩;refine ⟨_,rfl,?_⟩;(conv=>whnf);refine .inr (.inl ?_);obtain ⟨_,g11,h⟩:=bind_inv h;have g14c:=chk_inv g11;refine ⟨view_b0 (f:=D.u8) g11,rfl,(Int.toNat (i64w (v2 + 1))),(Int.toNat (a0.length:Int) - Int.toNat (i64w (v2 + 1))),rfl,(by rw [List.length_map]),?_⟩;refine ⟨(by first | rfl | (simp only [List.length_map,List.length_set];omega) | (simp only [List.length_map,List.length_set,List.length_append,List.length_take,List.length_drop,List.length_replicate];omega)),List.map D.u8 (List.take (Int.toNat (a0.length:Int) - Int.toNat (i64w (v2 + 1))) (List.drop (Int.toNat (i64w (v2 + 1))) a0)),view_z,?_⟩;obtain ⟨v12,g13,h⟩:=bind_inv h;refine ⟨rfl,rfl,(by simp only [List.length_map];omega),cut_b (g:=D.u8) g13 (by omega),_,cut_z (f:=D.u8) g13,?_⟩;(conv=>whnf);refine cOB (by kernel_rfl) ?_;(conv=>whnf);refine .inl ?_;(conv=>whnf);refine .inl ?_;refine ⟨rfl,?_⟩;cases h;exact ⟨rfl,rfl⟩
   ·(conv=>whnf);refine .go ?_;revert h;refine sel_if ?_ ?_<;>intro h
    ·(conv=>whnf);refine .inl (dOB (by kernel_rfl) ?_);(conv=>whnf);refine .inr (.inl ?_);obtain ⟨_,g14,h⟩:=bind_inv h;have g18c:=chk_inv g14;refine ⟨view_b (f:=D.u8) g14,rfl,(Int.toNat 0),(Int.toNat v2 - Int.toNat 0),rfl,rfl,?_⟩;refine ⟨(by first | rfl | (simp only [List.length_map,List.length_set];omega) | (simp only [List.length_map,List.length_set,List.length_append,List.length_take,List.length_drop,List.length_replicate];omega)),List.map D.u8 (List.take (Int.toNat v2 - Int.toNat 0) (List.drop (Int.toNat 0) a0)),view_z,?_⟩;obtain ⟨_,g15,h⟩:=bind_inv h;refine ⟨apnd_b0 (g:=D.u8) g15,?_⟩;refine ⟨_,u8_wrap _,?_⟩;refine ⟨rfl,?_⟩;obtain ⟨v16,g17,h⟩:=bind_inv h;refine ⟨rfl,apnd_b (f:=D.u8) (g:=D.u8) g17,_,apnd_z (f:=D.u8) g17,?_⟩;(conv=>whnf);refine .inr (.inl ?_);obtain ⟨_,g18,h⟩:=bind_inv h;have g24c:=chk_inv g18;refine ⟨view_b0 (f:=D.u8) g18,rfl,(Int.toNat v2),(Int.toNat (a0.length:Int) - Int.toNat v2),rfl,(by rw [List.length_map]),?_⟩;refine ⟨(by first | rfl | (simp only [List.length_map,List.length_set];omega) | (simp only [List.length_map,List.length_set,List.length_append,List.length_take,List.length_drop,List.length_replicate];omega)),List.map D.u8 (List.take (Int.toNat (a0.length:Int) - Int.toNat v2) (List.drop (Int.toNat v2) a0)),view_z,?_⟩;obtain ⟨v19,g20,h⟩:=bind_inv h;refine ⟨rfl,apnd_b (f:=D.u8) (g:=D.u8) g20,_,apnd_z (f:=D.u8) g20,?_⟩;(conv=>whnf);refine cOB (by kernel_rfl) ?_;(conv=>whnf);refine .inl ?_;(conv=>whnf);refine .inl ?_;refine ⟨rfl,?_⟩;cases h;exact ⟨rfl,rfl⟩
    ·(conv=>whnf);refine .inl ?_;refine ⟨rfl,?_⟩;obtain ⟨v21,g22,h⟩:=bind_inv h;refine ⟨part_b (f:=D.u8) g22,_,part_z (f:=D.u8) g22,?_⟩;cases h;exact ⟨rfl,rfl⟩
theorem make_Deck_Next_ok {wl:Prop} {a0:Deck} {a1:Int} {r:Int×Deck} (h:make_Deck_Next a0 a1=some r):CallsOK (Wl wl) Tryd.prog 30 [.ref 0 0,AV.d (D.i a1)] [.box (Deck.av a0)] (.d (D.i r.1)) [.box (Deck.av r.2)]:=by
 refine ok Tryd.f30 (by kernel_rfl) (by kernel_rfl) ⟨rfl,?_⟩;unfold make_Deck_Next at h;(conv=>whnf);refine .inl (dOB (by kernel_rfl) ?_);refine ⟨a0.L.length,List.length_map _,?_⟩;(conv=>whnf);refine cOB (by kernel_rfl) ?_;(conv=>whnf);refine .go ?_;revert h;refine sel_if ?_ ?_<;>intro h
 ·cases h;exact ⟨rfl,rfl⟩
 ·refine ⟨_,rfl,?_⟩;(conv=>whnf);refine .inl (dOB (by kernel_rfl) ?_);refine ⟨_,rfl,?_⟩;obtain ⟨v1,g2,h⟩:=bind_inv h;refine ⟨geti_b (f:=D.i) g2,D.i v1,geti_d (f:=D.i) g2,rfl,?_⟩;obtain ⟨v3,g4,h⟩:=bind_inv h;refine ⟨_,_,make_Mod_ok g4,.inl rfl,?_⟩;(conv=>whnf);refine cOB (by kernel_rfl) ?_;cases h;exact ⟨rfl,rfl⟩
theorem make_Deck_Bytes_ok {wl:Prop} {a0:Deck} {a1:Int} {r:(List UInt8)×Deck} (h:make_Deck_Bytes a0 a1=some r):CallsOK (Wl wl) Tryd.prog 31 [.ref 0 0,AV.d (D.i a1)] [.box (Deck.av a0)] (.d (D.l 1 D.u8 r.1)) [.box (Deck.av r.2)]:=by
 refine ok Tryd.f31 (by kernel_rfl) (by kernel_rfl) ⟨rfl,?_⟩;unfold make_Deck_Bytes at h;refine ⟨_,rfl,?_⟩;obtain ⟨⟨v1,v2⟩,g3,h⟩:=bind_inv h;refine ⟨_,_,some [],make_Deck_Next_ok g3,?_⟩;revert h;refine cut_join (fun (v4,v5)=>⟨dd 5 (AV.own 6 (List.map D.u8 v5).length::dd 16 ([])),some (OB.box (Deck.av v4))::nn 5 (some (OB.row 5 1 (List.map D.u8 v5) .no)::nn 16 ([]))⟩) ?_ ?_
 ·intro k6 h;revert h;refine loop_while (fun (v7,v8,v9)=>⟨AV.ref 0 0::dd 4 (AV.own 6 (List.map D.u8 v9).length::AV.d (D.i v7)::dd 15 ([])),some (OB.box (Deck.av v8))::nn 5 (some (OB.row 5 1 (List.map D.u8 v9) .no)::nn 16 ([]))⟩) ?_ ?_
  ·exact wk
  rintro next10 ⟨v7,v8,v9⟩ K11 h hK12;(conv=>whnf);refine .go ?_;revert h;refine sel_if ?_ ?_<;>intro h
  ·(conv=>whnf);refine .go ?_;obtain ⟨⟨v13,v14⟩,g15,h⟩:=bind_inv h;refine ⟨_,_,some [],make_Deck_Next_ok g15,?_⟩;refine ⟨_,u8_wrap _,?_⟩;refine ⟨rfl,?_⟩;obtain ⟨v16,g17,h⟩:=bind_inv h;refine ⟨rfl,apnd_b (f:=D.u8) (g:=D.u8) g17,_,apnd_z (f:=D.u8) g17,?_⟩;refine ⟨_,rfl,?_⟩;exact hK12 _ _ wk h
  ·exact join_end wk h
 ·rintro ⟨v4,v5⟩ h;(conv=>whnf);refine .inl ?_;(conv=>whnf);refine .inl ?_;refine ⟨rfl,?_⟩;cases h;exact ⟨rfl,rfl⟩
theorem ref15_Valid_ok {wl:Prop} {a0:List Segment} {r:Bool} (h:ref15_Valid a0=some r):CallsOK (Wl wl) Tryd.prog 21 [AV.d (D.l 2 Segment.toD a0)] [] (.d (D.b r)) []:=by
 refine ok Tryd.f21 (by kernel_rfl) (by kernel_rfl) ⟨rfl,?_⟩;unfold ref15_Valid at h;refine ⟨a0.length,List.length_map _,?_⟩;revert h;refine cut_join (fun v1=>⟨X::X::X::AV.d (D.i v1)::dd 74 ([]),nn 78 ([])⟩) ?_ ?_
 ·intro k2 h;revert h;refine loop_for 8 2 Segment.toD rfl (fun i3 v4=>⟨AV.d (D.l 2 Segment.toD a0)::X::X::AV.d (D.i v4)::dd 4 (AV.d (D.l 2 Segment.toD a0)::AV.d (D.i (a0.length:Int))::AV.d (D.i (i3:Int))::dd 67 ([])),nn 78 ([])⟩) ?_ ?_ ?_
  ·exact wk
  ·rintro v4 K5 h;(conv=>whnf);refine .go ?_;(conv=>whnf);refine sel_f lt_f ?_;exact join_end wk h
  ·rintro next6 i3 x7 v4 K5 hii3 hxi3 hwi3 h hK8;(conv=>whnf);refine .go ?_;(conv=>whnf);refine sel_t (lt_t hii3) ?_;revert h;refine cut_join (fun _=>⟨AV.d (D.l 2 Segment.toD a0)::X::X::AV.d (D.i (i64w (v4 + (x7.ASNs.length:Int))))::dd 4 (AV.d (D.l 2 Segment.toD a0)::AV.d (D.i (a0.length:Int))::AV.d (D.i (i3:Int))::dd 67 ([])),nn 78 ([])⟩) ?_ ?_
   ·intro k9 h;refine ⟨idx_b (f:=Segment.toD) hii3,Segment.toD x7,hxi3,rfl,?_⟩;revert h;refine cut_join (fun v10=>⟨AV.d (D.l 2 Segment.toD a0)::X::X::AV.d (D.i v4)::X::AV.ref 5 0::X::X::AV.d (D.l 2 Segment.toD a0)::AV.d (D.i (a0.length:Int))::AV.d (D.i (i3:Int))::dd 25 (AV.d (D.b v10)::dd 41 ([])),nn 5 (some (OB.box (Segment.av x7))::nn 72 ([]))⟩) ?_ ?_
    ·intro k11 h;refine ⟨x7.ASNs.length,List.length_map _,?_⟩;revert h;refine sel_if ?_ ?_<;>intro h
     ·exact join_end wk h
     ·revert h;refine sel_if ?_ ?_<;>intro h
      ·revert h;refine sel_if ?_ ?_<;>intro h
       ·refine ⟨_,rfl,?_⟩;obtain ⟨v12,g13,h⟩:=bind_inv h;refine ⟨geti_b (f:=Segment.toD) g13,Segment.toD v12,geti_d (f:=Segment.toD) g13,rfl,?_⟩;exact join_end wk h
       ·exact join_end wk h
      ·exact join_end wk h
    ·rintro v10 h;(conv=>whnf);refine .go ?_;revert h;refine sel_if ?_ ?_<;>intro h
     ·cases h;exact ⟨rfl,rfl⟩
     ·refine ⟨x7.ASNs.length,List.length_map _,?_⟩;revert h;refine cut_join (fun _=>⟨AV.d (D.l 2 Segment.toD a0)::X::X::AV.d (D.i v4)::X::AV.ref 5 0::X::X::AV.d (D.l 2 Segment.toD a0)::AV.d (D.i (a0.length:Int))::AV.d (D.i (i3:Int))::dd 67 ([]),nn 5 (some (OB.box (Segment.av x7))::nn 72 ([]))⟩) ?_ ?_
      ·intro k14 h;revert h;refine loop_for 38 1 D.i rfl (fun i15 _=>⟨AV.d (D.l 2 Segment.toD a0)::X::X::AV.d (D.i v4)::X::AV.ref 5 0::X::X::AV.d (D.l 2 Segment.toD a0)::AV.d (D.i (a0.length:Int))::AV.d (D.i (i3:Int))::dd 27 (AV.d (D.l 1 D.i x7.ASNs)::AV.d (D.i (x7.ASNs.length:Int))::AV.d (D.i (i15:Int))::dd 37 ([])),nn 5 (some (OB.box (Segment.av x7))::nn 72 ([]))⟩) ?_ ?_ ?_
       ·exact wk
       ·rintro _ K16 h;(conv=>whnf);refine .go ?_;(conv=>whnf);refine sel_f lt_f ?_;exact join_end wk h
       ·rintro next17 i15 x18 _ K16 hii15 hxi15 hwi15 h hK19;(conv=>whnf);refine .go ?_;(conv=>whnf);refine sel_t (lt_t hii15) ?_;(conv=>whnf);refine .go ?_;refine ⟨idx_b (f:=D.i) hii15,D.i x18,hxi15,rfl,?_⟩;revert h;refine cut_join (fun v20=>⟨AV.d (D.l 2 Segment.toD a0)::X::X::AV.d (D.i v4)::X::AV.ref 5 0::X::X::AV.d (D.l 2 Segment.toD a0)::AV.d (D.i (a0.length:Int))::AV.d (D.i (i3:Int))::dd 27 (AV.d (D.l 1 D.i x7.ASNs)::AV.d (D.i (x7.ASNs.length:Int))::AV.d (D.i (i15:Int))::dd 27 (AV.d (D.b v20)::dd 9 ([]))),nn 5 (some (OB.box (Segment.av x7))::nn 72 ([]))⟩) ?_ ?_
        ·intro k21 h;revert h;refine sel_if ?_ ?_<;>intro h
         ·exact join_end wk h
         ·revert h;refine sel_if ?_ ?_<;>intro h
          ·exact join_end wk h
          ·revert h;refine sel_if ?_ ?_<;>intro h
           ·revert h;refine sel_if ?_ ?_<;>intro h
            ·refine ⟨_,rfl,?_⟩;obtain ⟨v22,g23,h⟩:=bind_inv h;refine ⟨geti_b (f:=D.i) g23,D.i v22,geti_d (f:=D.i) g23,rfl,?_⟩;exact join_end wk h
            ·exact join_end wk h
           ·exact join_end wk h
        ·rintro v20 h;(conv=>whnf);refine .go ?_;revert h;refine sel_if ?_ ?_<;>intro h
         ·cases h;exact ⟨rfl,rfl⟩
         ·refine ⟨_,hwi15,?_⟩;exact hK19 _ _ wk h
      ·rintro _ h;refine ⟨x7.ASNs.length,List.length_map _,?_⟩;refine ⟨_,rfl,?_⟩;exact join_end wk h
   ·rintro _ h;refine ⟨_,hwi3,?_⟩;exact hK8 _ _ wk h
 ·rintro v1 h;cases h;exact ⟨rfl,rfl⟩
theorem make_Deck_asn_ok {wl:Prop} {a0:Deck} {r:Int×Deck} (h:make_Deck_asn a0=some r):CallsOK (Wl wl) Tryd.prog 89 [.ref 0 0] [.box (Deck.av a0)] (.d (D.i r.1)) [.box (Deck.av r.2)]:=by
 refine ok Tryd.f89 (by kernel_rfl) (by kernel_rfl) ⟨rfl,?_⟩;unfold make_Deck_asn at h;obtain ⟨⟨v1,v2⟩,g3,h⟩:=bind_inv h;refine ⟨_,_,some [],make_Deck_Next_ok g3,?_⟩;refine ⟨_,rfl,?_⟩;obtain ⟨⟨v4,v5⟩,g6,h⟩:=bind_inv h;refine ⟨_,_,some [],make_Deck_Next_ok g6,?_⟩;refine ⟨_,rfl,?_⟩;obtain ⟨⟨v7,v8⟩,g9,h⟩:=bind_inv h;refine ⟨_,_,some [],make_Deck_Next_ok g9,?_⟩;obtain ⟨v10,g11,h⟩:=bind_inv h;refine ⟨rfl,geti_b (f:=D.i) g11,?_⟩;refine ⟨rfl,D.i v10,(geti_d (f:=D.i) g11),?_⟩;cases h;exact ⟨rfl,rfl⟩
theorem make_Deck_Path_ok {wl:Prop} {a0:Deck} {r:(List Segment)×Deck} (h:make_Deck_Path a0=some r):CallsOK (Wl wl) Tryd.prog 64 [.ref 0 0] [.box (Deck.av a0)] (.d (D.l 2 Segment.toD r.1)) [.box (Deck.av r.2)]:=by
 refine ok Tryd.f64 (by kernel_rfl) (by kernel_rfl) ⟨rfl,?_⟩;unfold make_Deck_Path at h;obtain ⟨⟨v1,v2⟩,g3,h⟩:=bind_inv h;refine ⟨_,_,some [],make_Deck_Next_ok g3,?_⟩;revert h;refine cut_join (fun (v4,v5)=>⟨X::X::X::AV.own 4 (List.map Segment.toD v5).length::dd 106 ([]),some (OB.box (Deck.av v4))::N::N::N::some (OB.row 84 2 (List.map Segment.toD v5) .no)::nn 106 ([])⟩) ?_ ?_
 ·intro k6 h;revert h;refine loop_while (fun (v7,v8,v9)=>⟨AV.ref 0 0::X::X::AV.own 4 (List.map Segment.toD v9).length::AV.d (D.i v7)::dd 105 ([]),some (OB.box (Deck.av v8))::N::N::N::some (OB.row 84 2 (List.map Segment.toD v9) .no)::nn 106 ([])⟩) ?_ ?_
  ·exact wk
  rintro next10 ⟨v7,v8,v9⟩ K11 h hK12;(conv=>whnf);refine .go ?_;revert h;refine sel_if ?_ ?_<;>intro h
  ·revert h;refine cut_join (fun (v13,v14)=>⟨AV.ref 0 0::X::X::AV.own 109 (List.map Segment.toD v14).length::AV.d (D.i v7)::dd 105 ([]),some (OB.box (Deck.av v13))::nn 108 (some (OB.row 84 2 (List.map Segment.toD v14) .no)::N::[])⟩) ?_ ?_
   ·intro k15 h;revert h;refine cut_join (fun (v16,v17)=>⟨AV.ref 0 0::X::X::AV.own 4 (List.map Segment.toD v9).length::AV.d (D.i v7)::AV.d (D.b v16)::dd 104 ([]),some (OB.box (Deck.av v17))::N::N::N::some (OB.row 84 2 (List.map Segment.toD v9) .no)::nn 106 ([])⟩) ?_ ?_
    ·intro k18 h;refine ⟨v9.length,by first | exact List.length_map _ | rfl | (simp only [List.length_map];omega),?_⟩;revert h;refine sel_if ?_ ?_<;>intro h
     ·refine ⟨v9.length,by first | exact List.length_map _ | rfl | (simp only [List.length_map];omega),?_⟩;refine ⟨_,rfl,?_⟩;obtain ⟨v19,g20,h⟩:=bind_inv h;refine ⟨rfl,geti_b (f:=Segment.toD) g20,?_⟩;refine ⟨rfl,?_⟩;refine ⟨rfl,Segment.toD v19,(geti_d (f:=Segment.toD) g20),?_⟩;revert h;refine sel_if ?_ ?_<;>intro h
      ·exact join_end wk h
      ·obtain ⟨⟨v21,v22⟩,g23,h⟩:=bind_inv h;refine ⟨_,_,some [],make_Deck_Next_ok g23,?_⟩;exact join_end wk h
     ·obtain ⟨⟨v24,v25⟩,g26,h⟩:=bind_inv h;refine ⟨_,_,some [],make_Deck_Next_ok g26,?_⟩;exact join_end wk h
    ·rintro ⟨v16,v17⟩ h;obtain ⟨⟨v27,v28⟩,g29,h⟩:=bind_inv h;refine ⟨_,_,some [],make_Deck_Next_ok g29,?_⟩;refine ⟨_,rfl,?_⟩;revert h;refine cut_join (fun (v30,v31)=>⟨AV.ref 0 0::X::X::AV.own 4 (List.map Segment.toD v9).length::AV.d (D.i v7)::X::AV.ref 7 0::dd 103 ([]),some (OB.box (Deck.av v30))::N::N::N::some (OB.row 84 2 (List.map Segment.toD v9) .no)::N::N::some (OB.box [AV.d (D.b v16),AV.own 52 (List.map D.i v31).length])::nn 44 (some (OB.row 3 1 (List.map D.i v31) .no)::nn 58 ([]))⟩) ?_ ?_
     ·intro k32 h;revert h;refine loop_while (fun (v33,v34,v35)=>⟨AV.ref 0 0::X::X::AV.own 4 (List.map Segment.toD v9).length::AV.d (D.i v7)::AV.d (D.b v16)::AV.ref 7 0::AV.d (D.i v33)::dd 102 ([]),some (OB.box (Deck.av v34))::N::N::N::some (OB.row 84 2 (List.map Segment.toD v9) .no)::N::N::some (OB.box [AV.d (D.b v16),AV.own 52 (List.map D.i v35).length])::nn 44 (some (OB.row 3 1 (List.map D.i v35) .no)::nn 58 ([]))⟩) ?_ ?_
      ·exact wk
      rintro next36 ⟨v33,v34,v35⟩ K37 h hK38;(conv=>whnf);refine .go ?_;revert h;refine sel_if ?_ ?_<;>intro h
      ·revert h;refine cut_join (fun (v39,v40)=>⟨AV.ref 0 0::X::X::AV.own 4 (List.map Segment.toD v9).length::AV.d (D.i v7)::AV.d (D.b v16)::AV.ref 7 0::AV.d (D.i v33)::dd 102 ([]),some (OB.box (Deck.av v39))::N::N::N::some (OB.row 84 2 (List.map Segment.toD v9) .no)::N::N::some (OB.box [AV.d (D.b v16),AV.own 52 (List.map D.i v40).length])::nn 44 (some (OB.row 3 1 (List.map D.i v40) .no)::nn 58 ([]))⟩) ?_ ?_
       ·intro k41 h;obtain ⟨⟨v42,v43⟩,g44,h⟩:=bind_inv h;refine ⟨_,_,some [],make_Deck_asn_ok g44,?_⟩;(conv=>whnf);refine .go ?_;revert h;refine sel_if ?_ ?_<;>intro h
        ·refine ⟨rfl,?_⟩;obtain ⟨v45,g46,h⟩:=bind_inv h;refine ⟨rfl,apnd_b (f:=D.i) (g:=D.i) g46,_,apnd_z (f:=D.i) g46,?_⟩;exact join_end wk h
        ·revert h;refine cut_join (fun v47=>⟨AV.ref 0 0::X::X::AV.own 4 (List.map Segment.toD v9).length::AV.d (D.i v7)::AV.d (D.b v16)::AV.ref 7 0::AV.d (D.i v33)::AV.d (D.i v42)::AV.d (D.i v47)::dd 100 ([]),some (OB.box (Deck.av v43))::N::N::N::some (OB.row 84 2 (List.map Segment.toD v9) .no)::N::N::some (OB.box [AV.d (D.b v16),AV.own 52 (List.map D.i v35).length])::nn 44 (some (OB.row 3 1 (List.map D.i v35) .no)::nn 58 ([]))⟩) ?_ ?_
         ·intro k48 h;revert h;refine loop_while (fun v49=>⟨AV.ref 0 0::X::X::AV.own 4 (List.map Segment.toD v9).length::AV.d (D.i v7)::AV.d (D.b v16)::AV.ref 7 0::AV.d (D.i v33)::AV.d (D.i v42)::AV.d (D.i v49)::dd 100 ([]),some (OB.box (Deck.av v43))::N::N::N::some (OB.row 84 2 (List.map Segment.toD v9) .no)::N::N::some (OB.box [AV.d (D.b v16),AV.own 52 (List.map D.i v35).length])::nn 44 (some (OB.row 3 1 (List.map D.i v35) .no)::nn 58 ([]))⟩) ?_ ?_
          ·exact wk
          rintro next50 v49 K51 h hK52;revert h;refine cut_join (fun v53=>⟨AV.ref 0 0::X::X::AV.own 4 (List.map Segment.toD v9).length::AV.d (D.i v7)::AV.d (D.b v16)::AV.ref 7 0::AV.d (D.i v33)::AV.d (D.i v42)::AV.d (D.i v49)::dd 56 (AV.d (D.b v53)::dd 43 ([])),some (OB.box (Deck.av v43))::N::N::N::some (OB.row 84 2 (List.map Segment.toD v9) .no)::N::N::some (OB.box [AV.d (D.b v16),AV.own 52 (List.map D.i v35).length])::nn 44 (some (OB.row 3 1 (List.map D.i v35) .no)::nn 58 ([]))⟩) ?_ ?_
          ·intro k54 h;refine ⟨v35.length,by first | exact List.length_map _ | rfl | (simp only [List.length_map];omega),?_⟩;revert h;refine sel_if ?_ ?_<;>intro h
           ·obtain ⟨v55,g56,h⟩:=bind_inv h;refine ⟨rfl,geti_b (f:=D.i) g56,?_⟩;refine ⟨rfl,D.i v55,(geti_d (f:=D.i) g56),?_⟩;exact join_end wk h
           ·exact join_end wk h
          ·rintro v53 h;(conv=>whnf);refine .go ?_;revert h;refine sel_if ?_ ?_<;>intro h
           ·(conv=>whnf);refine .go ?_;refine ⟨_,rfl,?_⟩;exact hK52 _ _ wk h
           ·exact join_end wk h
         ·rintro v47 h;revert h;refine cut_join (fun v57=>⟨AV.ref 0 0::X::X::AV.own 4 (List.map Segment.toD v9).length::AV.d (D.i v7)::AV.d (D.b v16)::AV.ref 7 0::AV.d (D.i v33)::AV.d (D.i v42)::AV.d (D.i v47)::dd 72 (AV.d (D.b v57)::dd 27 ([])),some (OB.box (Deck.av v43))::N::N::N::some (OB.row 84 2 (List.map Segment.toD v9) .no)::N::N::some (OB.box [AV.d (D.b v16),AV.own 52 (List.map D.i v35).length])::nn 44 (some (OB.row 3 1 (List.map D.i v35) .no)::nn 58 ([]))⟩) ?_ ?_
          ·intro k58 h;refine ⟨v35.length,by first | exact List.length_map _ | rfl | (simp only [List.length_map];omega),?_⟩;revert h;refine sel_if ?_ ?_<;>intro h
           ·exact join_end wk h
           ·obtain ⟨v59,g60,h⟩:=bind_inv h;refine ⟨rfl,geti_b (f:=D.i) g60,?_⟩;refine ⟨rfl,D.i v59,(geti_d (f:=D.i) g60),?_⟩;exact join_end wk h
          ·rintro v57 h;revert h;refine cut_join (fun v61=>⟨AV.ref 0 0::X::X::AV.own 4 (List.map Segment.toD v9).length::AV.d (D.i v7)::AV.d (D.b v16)::AV.ref 7 0::AV.d (D.i v33)::dd 102 ([]),some (OB.box (Deck.av v43))::N::N::N::some (OB.row 84 2 (List.map Segment.toD v9) .no)::N::N::some (OB.box [AV.d (D.b v16),AV.own 88 (List.map D.i v61).length])::nn 80 (some (OB.row 3 1 (List.map D.i v61) .no)::nn 22 ([]))⟩) ?_ ?_
           ·intro k62 h;revert h;refine sel_if ?_ ?_<;>intro h
            ·(conv=>whnf);refine .inl (dOB (by kernel_rfl) ?_);(conv=>whnf);refine .inr (.inl ?_);obtain ⟨_,g63,h⟩:=bind_inv h;have g169c:=chk_inv g63;refine ⟨view_b (f:=D.i) g63,rfl,(Int.toNat 0),(Int.toNat v47 - Int.toNat 0),rfl,rfl,?_⟩;refine ⟨(by first | rfl | (simp only [List.length_map,List.length_set];omega) | (simp only [List.length_map,List.length_set,List.length_append,List.length_take,List.length_drop,List.length_replicate];omega)),List.map D.i (List.take (Int.toNat v47 - Int.toNat 0) (List.drop (Int.toNat 0) v35)),view_z,?_⟩;obtain ⟨_,g64,h⟩:=bind_inv h;refine ⟨apnd_b0 (g:=D.i) g64,?_⟩;refine ⟨rfl,?_⟩;obtain ⟨v65,g66,h⟩:=bind_inv h;refine ⟨rfl,apnd_b (f:=D.i) (g:=D.i) g66,_,apnd_z (f:=D.i) g66,?_⟩;(conv=>whnf);refine .inr (.inl ?_);obtain ⟨_,g67,h⟩:=bind_inv h;have g175c:=chk_inv g67;refine ⟨view_b0 (f:=D.i) g67,rfl,(Int.toNat v47),(Int.toNat (v35.length:Int) - Int.toNat v47),rfl,(by rw [List.length_map]),?_⟩;refine ⟨(by first | rfl | (simp only [List.length_map,List.length_set];omega) | (simp only [List.length_map,List.length_set,List.length_append,List.length_take,List.length_drop,List.length_replicate];omega)),List.map D.i (List.take (Int.toNat (v35.length:Int) - Int.toNat v47) (List.drop (Int.toNat v47) v35)),view_z,?_⟩;obtain ⟨v68,g69,h⟩:=bind_inv h;refine ⟨rfl,apnd_b (f:=D.i) (g:=D.i) g69,_,apnd_z (f:=D.i) g69,?_⟩;(conv=>whnf);refine cOB (by kernel_rfl) ?_;exact join_end wk h
            ·exact join_end (.swap 52 88 rfl rfl rfl wk) h
           ·rintro v61 h;exact join_end (.swap 88 52 rfl rfl rfl wk) h
       ·rintro ⟨v39,v40⟩ h;refine ⟨_,rfl,?_⟩;exact hK38 _ _ wk h
      ·exact join_end wk h
     ·rintro ⟨v30,v31⟩ h;(conv=>whnf);refine .inl ?_;refine ⟨rfl,?_⟩;refine ⟨rfl,?_⟩;obtain ⟨v70,g71,h⟩:=bind_inv h;refine ⟨rfl,apnd_b (f:=Segment.toD) (g:=Segment.toD) g71,_,apnd_z (f:=Segment.toD) g71,?_⟩;refine ⟨rfl,?_⟩;obtain ⟨v72,g73,h⟩:=bind_inv h;refine ⟨_,_,none,ref15_Valid_ok g73,?_⟩;revert h;refine cut_join (fun v74=>⟨AV.ref 0 0::X::X::AV.own 109 (List.map Segment.toD v74).length::AV.d (D.i v7)::dd 105 ([]),some (OB.box (Deck.av v30))::nn 108 (some (OB.row 84 2 (List.map Segment.toD v74) .no)::N::[])⟩) ?_ ?_
      ·intro k75 h;revert h;refine sel_if ?_ ?_<;>intro h
       ·refine ⟨v70.length,by first | exact List.length_map _ | rfl | (simp only [List.length_map];omega),?_⟩;refine ⟨_,rfl,?_⟩;(conv=>whnf);refine .inr (.inr ?_);obtain ⟨v76,g77,h⟩:=bind_inv h;refine ⟨move_b (f:=Segment.toD) g77,rfl,_,part_z (f:=Segment.toD) g77,?_⟩;exact join_end wk h
       ·exact join_end (.swap 4 109 rfl rfl rfl wk) h
      ·rintro v74 h;exact join_end wk h
   ·rintro ⟨v13,v14⟩ h;refine ⟨_,rfl,?_⟩;exact hK12 _ _ (.swap 109 4 rfl rfl rfl wk) h
  ·exact join_end wk h
 ·rintro ⟨v4,v5⟩ h;(conv=>whnf);refine .inl ?_;(conv=>whnf);refine .inl ?_;refine ⟨rfl,?_⟩;cases h;exact ⟨rfl,rfl⟩
theorem make_four_ok {wl:Prop} {a0:Int} {r:Addr} (h:make_four a0=some r):CallsOK (Wl wl) Tryd.prog 65 [AV.d (D.i a0)] [] (.d (Addr.toD r)) []:=by
 refine ok Tryd.f65 (by kernel_rfl) (by kernel_rfl) ⟨rfl,?_⟩;unfold make_four at h;refine ⟨_,rfl,?_⟩;refine ⟨_,u64_wrap _,?_⟩;refine ⟨_,u64_wrap _,?_⟩;cases h;exact ⟨rfl,rfl⟩
theorem make_six_ok {wl:Prop} {a0:Int} {r:Addr} (h:make_six a0=some r):CallsOK (Wl wl) Tryd.prog 66 [AV.d (D.i a0)] [] (.d (Addr.toD r)) []:=by
 refine ok Tryd.f66 (by kernel_rfl) (by kernel_rfl) ⟨rfl,?_⟩;unfold make_six at h;refine ⟨_,rfl,?_⟩;refine ⟨_,u64_wrap _,?_⟩;cases h;exact ⟨rfl,rfl⟩
theorem ref17_right_ok {wl:Prop} {a0:Community} {r:Bool} (h:ref17_right a0=some r):CallsOK (Wl wl) Tryd.prog 104 [AV.d (Community.toD a0)] [] (.d (D.b r)) []:=by
 refine ok Tryd.f104 (by kernel_rfl) (by kernel_rfl) ⟨rfl,?_⟩;unfold ref17_right at h;revert h;refine cut_join (fun v1=>⟨X::X::AV.d (D.b v1)::dd 18 ([]),nn 21 ([])⟩) ?_ ?_
 ·intro k2 h;revert h;refine sel_if ?_ ?_<;>intro h
  ·revert h;refine sel_if ?_ ?_<;>intro h
   ·revert h;refine sel_if ?_ ?_<;>intro h
    ·exact join_end wk h
    ·exact join_end wk h
   ·exact join_end wk h
  ·exact join_end wk h
 ·rintro v1 h;cases h;exact ⟨rfl,rfl⟩
theorem ref17_less_ok {wl:Prop} {a0:Community} {a1:Community} {r:Bool} (h:ref17_less a0 a1=some r):CallsOK (Wl wl) Tryd.prog 106 [AV.d (Community.toD a0),AV.d (Community.toD a1)] [] (.d (D.b r)) []:=by
 refine ok Tryd.f106 (by kernel_rfl) (by kernel_rfl) ⟨rfl,?_⟩;unfold ref17_less at h;revert h;refine cut_join (fun v1=>⟨dd 4 (AV.d (D.b v1)::dd 19 ([])),nn 24 ([])⟩) ?_ ?_
 ·intro k2 h;revert h;refine sel_if ?_ ?_<;>intro h
  ·exact join_end wk h
  ·revert h;refine sel_if ?_ ?_<;>intro h
   ·exact join_end wk h
   ·exact join_end wk h
 ·rintro v1 h;cases h;exact ⟨rfl,rfl⟩
theorem ref17_Valid_ok {wl:Prop} {a0:List Community} {r:Bool} (h:ref17_Valid a0=some r):CallsOK (Wl wl) Tryd.prog 91 [AV.d (D.l 2 Community.toD a0)] [] (.d (D.b r)) []:=by
 refine ok Tryd.f91 (by kernel_rfl) (by kernel_rfl) ⟨rfl,?_⟩;unfold ref17_Valid at h;refine ⟨a0.length,List.length_map _,?_⟩;revert h;refine cut_join (fun _=>⟨AV.d (D.l 2 Community.toD a0)::dd 32 ([]),nn 33 ([])⟩) ?_ ?_
 ·intro k1 h;revert h;refine loop_for 5 2 Community.toD rfl (fun i2 _=>⟨AV.d (D.l 2 Community.toD a0)::dd 4 (AV.d (D.l 2 Community.toD a0)::AV.d (D.i (a0.length:Int))::AV.d (D.i (i2:Int))::dd 25 ([])),nn 33 ([])⟩) ?_ ?_ ?_
  ·exact wk
  ·rintro _ K3 h;(conv=>whnf);refine .go ?_;(conv=>whnf);refine sel_f lt_f ?_;exact join_end wk h
  ·rintro next4 i2 x5 _ K3 hii2 hxi2 hwi2 h hK6;(conv=>whnf);refine .go ?_;(conv=>whnf);refine sel_t (lt_t hii2) ?_;(conv=>whnf);refine .go ?_;refine ⟨idx_b (f:=Community.toD) hii2,Community.toD x5,hxi2,rfl,?_⟩;revert h;refine cut_join (fun v7=>⟨AV.d (D.l 2 Community.toD a0)::dd 4 (AV.d (D.l 2 Community.toD a0)::AV.d (D.i (a0.length:Int))::AV.d (D.i (i2:Int))::dd 20 (AV.d (D.b v7)::dd 4 ([]))),nn 33 ([])⟩) ?_ ?_
   ·intro k8 h;(conv=>whnf);refine .inl (dOB (by kernel_rfl) ?_);obtain ⟨v9,g10,h⟩:=bind_inv h;refine ⟨_,_,ref17_right_ok g10,.inl rfl,?_⟩;revert h;refine sel_if ?_ ?_<;>intro h
    ·(conv=>whnf);refine cOB (by kernel_rfl) ?_;exact join_end wk h
    ·revert h;refine sel_if ?_ ?_<;>intro h
     ·refine ⟨_,rfl,?_⟩;obtain ⟨v11,g12,h⟩:=bind_inv h;refine ⟨geti_b (f:=Community.toD) g12,Community.toD v11,geti_d (f:=Community.toD) g12,rfl,?_⟩;obtain ⟨v13,g14,h⟩:=bind_inv h;refine ⟨_,_,ref17_less_ok g14,.inl rfl,?_⟩;(conv=>whnf);refine cOB (by kernel_rfl) ?_;exact join_end wk h
     ·(conv=>whnf);refine cOB (by kernel_rfl) ?_;exact join_end wk h
   ·rintro v7 h;(conv=>whnf);refine .go ?_;revert h;refine sel_if ?_ ?_<;>intro h
    ·cases h;exact ⟨rfl,rfl⟩
    ·refine ⟨_,hwi2,?_⟩;exact hK6 _ _ wk h
 ·rintro _ h;refine ⟨a0.length,List.length_map _,?_⟩;cases h;exact ⟨rfl,rfl⟩
end Go.AX.Q18
end
section
namespace Go.AX.Q18
open Go Go.AX Go.Proofs
set_option maxRecDepth 100000
set_option maxHeartbeats 4000000
set_option linter.unusedVariables false
theorem ref17_Has_ok {wl:Prop} {a0:List Community} {a1:Community} {r:Bool} (h:ref17_Has a0 a1=some r):CallsOK (Wl wl) Tryd.prog 105 [AV.d (D.l 2 Community.toD a0),AV.d (Community.toD a1)] [] (.d (D.b r)) []:=by
 refine ok Tryd.f105 (by kernel_rfl) (by kernel_rfl) ⟨rfl,?_⟩;unfold ref17_Has at h;refine ⟨a0.length,List.length_map _,?_⟩;revert h;refine cut_join (fun _=>⟨dd 17 ([]),nn 17 ([])⟩) ?_ ?_
 ·intro k1 h;revert h;refine loop_for 7 2 Community.toD rfl (fun i2 _=>⟨X::X::X::AV.ref 3 0::X::X::X::AV.d (D.l 2 Community.toD a0)::AV.d (D.i (a0.length:Int))::AV.d (D.i (i2:Int))::dd 7 ([]),N::N::N::some (OB.box (Community.av a1))::nn 13 ([])⟩) ?_ ?_ ?_
  ·exact wk
  ·rintro _ K3 h;(conv=>whnf);refine .go ?_;(conv=>whnf);refine sel_f lt_f ?_;exact join_end wk h
  ·rintro next4 i2 x5 _ K3 hii2 hxi2 hwi2 h hK6;(conv=>whnf);refine .go ?_;(conv=>whnf);refine sel_t (lt_t hii2) ?_;(conv=>whnf);refine .go ?_;refine ⟨idx_b (f:=Community.toD) hii2,Community.toD x5,hxi2,rfl,?_⟩;(conv=>whnf);refine .go ?_;revert h;refine sel_if ?_ ?_<;>intro h
   ·cases h;exact ⟨rfl,rfl⟩
   ·refine ⟨_,hwi2,?_⟩;exact hK6 _ _ wk h
 ·rintro _ h;cases h;exact ⟨rfl,rfl⟩
theorem ref17_Add_ok {wl:Prop} {a0:List Community} {a1:Community} {r:(List Community)×Int} (h:ref17_Add a0 a1=some r):CallsOK (Wl wl) Tryd.prog 81 [AV.d (D.l 2 Community.toD a0),AV.d (Community.toD a1)] [] (.tup [.d (D.l 2 Community.toD r.1),.d (D.i r.2)]) []:=by
 refine ok Tryd.f81 (by kernel_rfl) (by kernel_rfl) ⟨rfl,?_⟩;unfold ref17_Add at h;(conv=>whnf);refine .go ?_;revert h;refine cut_join (fun v1=>⟨AV.d (D.l 2 Community.toD a0)::X::X::AV.ref 3 0::X::X::X::AV.d (D.b v1)::dd 43 ([]),N::N::N::some (OB.box (Community.av a1))::nn 47 ([])⟩) ?_ ?_
 ·intro k2 h;obtain ⟨v3,g4,h⟩:=bind_inv h;refine ⟨_,_,some [],ref17_Valid_ok g4,?_⟩;revert h;refine sel_if ?_ ?_<;>intro h
  ·exact join_end wk h
  ·obtain ⟨v5,g6,h⟩:=bind_inv h;refine ⟨_,_,some [],ref17_right_ok g6,?_⟩;exact join_end wk h
 ·rintro v1 h;(conv=>whnf);refine .go ?_;revert h;refine sel_if ?_ ?_<;>intro h
  ·(conv=>whnf);refine .inl ?_;refine ⟨rfl,?_⟩;cases h;exact ⟨rfl,rfl⟩
  ·obtain ⟨v7,g8,h⟩:=bind_inv h;refine ⟨_,_,some [],ref17_Has_ok g8,?_⟩;(conv=>whnf);refine .go ?_;revert h;refine sel_if ?_ ?_<;>intro h
   ·obtain ⟨_,g9,h⟩:=bind_inv h;refine ⟨apnd_b0 (g:=Community.toD) g9,?_⟩;(conv=>whnf);refine .inl ?_;refine ⟨rfl,?_⟩;cases h;exact ⟨rfl,rfl⟩
   ·refine ⟨a0.length,List.length_map _,?_⟩;(conv=>whnf);refine .go ?_;revert h;refine sel_if ?_ ?_<;>intro h
    ·(conv=>whnf);refine .inl ?_;refine ⟨rfl,?_⟩;cases h;exact ⟨rfl,rfl⟩
    ·revert h;refine cut_join (fun v10=>⟨AV.d (D.l 2 Community.toD a0)::X::X::AV.ref 3 0::X::X::AV.d (D.i v10)::dd 44 ([]),N::N::N::some (OB.box (Community.av a1))::nn 47 ([])⟩) ?_ ?_
     ·intro k11 h;revert h;refine loop_while (fun v12=>⟨AV.d (D.l 2 Community.toD a0)::X::X::AV.ref 3 0::X::X::AV.d (D.i v12)::dd 44 ([]),N::N::N::some (OB.box (Community.av a1))::nn 47 ([])⟩) ?_ ?_
      ·exact wk
      rintro next13 v12 K14 h hK15;revert h;refine cut_join (fun v16=>⟨AV.d (D.l 2 Community.toD a0)::X::X::AV.ref 3 0::X::X::AV.d (D.i v12)::dd 30 (AV.d (D.b v16)::dd 13 ([])),N::N::N::some (OB.box (Community.av a1))::nn 47 ([])⟩) ?_ ?_
      ·intro k17 h;(conv=>whnf);refine .inl (dOB (by kernel_rfl) ?_);refine ⟨a0.length,List.length_map _,?_⟩;revert h;refine sel_if ?_ ?_<;>intro h
       ·obtain ⟨v18,g19,h⟩:=bind_inv h;refine ⟨geti_b (f:=Community.toD) g19,Community.toD v18,geti_d (f:=Community.toD) g19,rfl,?_⟩;obtain ⟨v20,g21,h⟩:=bind_inv h;refine ⟨_,_,ref17_less_ok g21,.inl rfl,?_⟩;(conv=>whnf);refine cOB (by kernel_rfl) ?_;exact join_end wk h
       ·(conv=>whnf);refine cOB (by kernel_rfl) ?_;exact join_end wk h
      ·rintro v16 h;(conv=>whnf);refine .go ?_;revert h;refine sel_if ?_ ?_<;>intro h
       ·(conv=>whnf);refine .go ?_;refine ⟨_,rfl,?_⟩;exact hK15 _ _ wk h
       ·exact join_end wk h
     ·rintro v10 h;(conv=>whnf);refine .inl (dOB (by kernel_rfl) ?_);obtain ⟨v22,g23,h⟩:=bind_inv h;refine ⟨part_b (f:=Community.toD) g23,_,part_z (f:=Community.toD) g23,?_⟩;obtain ⟨_,g24,h⟩:=bind_inv h;refine ⟨apnd_b0 (g:=Community.toD) g24,?_⟩;refine ⟨rfl,?_⟩;obtain ⟨v25,g26,h⟩:=bind_inv h;refine ⟨rfl,apnd_b (f:=Community.toD) (g:=Community.toD) g26,_,apnd_z (f:=Community.toD) g26,?_⟩;obtain ⟨v27,g28,h⟩:=bind_inv h;refine ⟨part_b0 (f:=Community.toD) g28,_,part_z0 (f:=Community.toD) g28,?_⟩;obtain ⟨v29,g30,h⟩:=bind_inv h;refine ⟨rfl,apnd_b (f:=Community.toD) (g:=Community.toD) g30,_,apnd_z (f:=Community.toD) g30,?_⟩;(conv=>whnf);refine cOB (by kernel_rfl) ?_;(conv=>whnf);refine .inl ?_;refine ⟨rfl,?_⟩;cases h;exact ⟨rfl,rfl⟩
theorem ref17_rightLarge_ok {wl:Prop} {a0:Large} {r:Bool} (h:ref17_rightLarge a0=some r):CallsOK (Wl wl) Tryd.prog 107 [AV.d (Large.toD a0)] [] (.d (D.b r)) []:=by
 refine ok Tryd.f107 (by kernel_rfl) (by kernel_rfl) ⟨rfl,?_⟩;unfold ref17_rightLarge at h;revert h;refine cut_join (fun v1=>⟨X::X::AV.d (D.b v1)::dd 28 ([]),nn 31 ([])⟩) ?_ ?_
 ·intro k2 h;revert h;refine sel_if ?_ ?_<;>intro h
  ·revert h;refine sel_if ?_ ?_<;>intro h
   ·revert h;refine sel_if ?_ ?_<;>intro h
    ·revert h;refine sel_if ?_ ?_<;>intro h
     ·revert h;refine sel_if ?_ ?_<;>intro h
      ·exact join_end wk h
      ·exact join_end wk h
     ·exact join_end wk h
    ·exact join_end wk h
   ·exact join_end wk h
  ·exact join_end wk h
 ·rintro v1 h;cases h;exact ⟨rfl,rfl⟩
theorem ref17_lessLarge_ok {wl:Prop} {a0:Large} {a1:Large} {r:Bool} (h:ref17_lessLarge a0 a1=some r):CallsOK (Wl wl) Tryd.prog 109 [AV.d (Large.toD a0),AV.d (Large.toD a1)] [] (.d (D.b r)) []:=by
 refine ok Tryd.f109 (by kernel_rfl) (by kernel_rfl) ⟨rfl,?_⟩;unfold ref17_lessLarge at h;revert h;refine cut_join (fun v1=>⟨dd 4 (AV.d (D.b v1)::dd 33 ([])),nn 38 ([])⟩) ?_ ?_
 ·intro k2 h;revert h;refine sel_if ?_ ?_<;>intro h
  ·exact join_end wk h
  ·revert h;refine sel_if ?_ ?_<;>intro h
   ·revert h;refine sel_if ?_ ?_<;>intro h
    ·exact join_end wk h
    ·revert h;refine sel_if ?_ ?_<;>intro h
     ·exact join_end wk h
     ·exact join_end wk h
   ·exact join_end wk h
 ·rintro v1 h;cases h;exact ⟨rfl,rfl⟩
theorem ref17_ValidLarge_ok {wl:Prop} {a0:List Large} {r:Bool} (h:ref17_ValidLarge a0=some r):CallsOK (Wl wl) Tryd.prog 92 [AV.d (D.l 3 Large.toD a0)] [] (.d (D.b r)) []:=by
 refine ok Tryd.f92 (by kernel_rfl) (by kernel_rfl) ⟨rfl,?_⟩;unfold ref17_ValidLarge at h;refine ⟨a0.length,List.length_map _,?_⟩;revert h;refine cut_join (fun _=>⟨AV.d (D.l 3 Large.toD a0)::dd 32 ([]),nn 33 ([])⟩) ?_ ?_
 ·intro k1 h;revert h;refine loop_for 5 3 Large.toD rfl (fun i2 _=>⟨AV.d (D.l 3 Large.toD a0)::dd 4 (AV.d (D.l 3 Large.toD a0)::AV.d (D.i (a0.length:Int))::AV.d (D.i (i2:Int))::dd 25 ([])),nn 33 ([])⟩) ?_ ?_ ?_
  ·exact wk
  ·rintro _ K3 h;(conv=>whnf);refine .go ?_;(conv=>whnf);refine sel_f lt_f ?_;exact join_end wk h
  ·rintro next4 i2 x5 _ K3 hii2 hxi2 hwi2 h hK6;(conv=>whnf);refine .go ?_;(conv=>whnf);refine sel_t (lt_t hii2) ?_;(conv=>whnf);refine .go ?_;refine ⟨idx_b (f:=Large.toD) hii2,Large.toD x5,hxi2,rfl,?_⟩;revert h;refine cut_join (fun v7=>⟨AV.d (D.l 3 Large.toD a0)::dd 4 (AV.d (D.l 3 Large.toD a0)::AV.d (D.i (a0.length:Int))::AV.d (D.i (i2:Int))::dd 20 (AV.d (D.b v7)::dd 4 ([]))),nn 33 ([])⟩) ?_ ?_
   ·intro k8 h;(conv=>whnf);refine .inl (dOB (by kernel_rfl) ?_);obtain ⟨v9,g10,h⟩:=bind_inv h;refine ⟨_,_,ref17_rightLarge_ok g10,.inl rfl,?_⟩;revert h;refine sel_if ?_ ?_<;>intro h
    ·(conv=>whnf);refine cOB (by kernel_rfl) ?_;exact join_end wk h
    ·revert h;refine sel_if ?_ ?_<;>intro h
     ·refine ⟨_,rfl,?_⟩;obtain ⟨v11,g12,h⟩:=bind_inv h;refine ⟨geti_b (f:=Large.toD) g12,Large.toD v11,geti_d (f:=Large.toD) g12,rfl,?_⟩;obtain ⟨v13,g14,h⟩:=bind_inv h;refine ⟨_,_,ref17_lessLarge_ok g14,.inl rfl,?_⟩;(conv=>whnf);refine cOB (by kernel_rfl) ?_;exact join_end wk h
     ·(conv=>whnf);refine cOB (by kernel_rfl) ?_;exact join_end wk h
   ·rintro v7 h;(conv=>whnf);refine .go ?_;revert h;refine sel_if ?_ ?_<;>intro h
    ·cases h;exact ⟨rfl,rfl⟩
    ·refine ⟨_,hwi2,?_⟩;exact hK6 _ _ wk h
 ·rintro _ h;refine ⟨a0.length,List.length_map _,?_⟩;cases h;exact ⟨rfl,rfl⟩
theorem ref17_HasLarge_ok {wl:Prop} {a0:List Large} {a1:Large} {r:Bool} (h:ref17_HasLarge a0 a1=some r):CallsOK (Wl wl) Tryd.prog 108 [AV.d (D.l 3 Large.toD a0),AV.d (Large.toD a1)] [] (.d (D.b r)) []:=by
 refine ok Tryd.f108 (by kernel_rfl) (by kernel_rfl) ⟨rfl,?_⟩;unfold ref17_HasLarge at h;refine ⟨a0.length,List.length_map _,?_⟩;revert h;refine cut_join (fun _=>⟨dd 17 ([]),nn 17 ([])⟩) ?_ ?_
 ·intro k1 h;revert h;refine loop_for 7 3 Large.toD rfl (fun i2 _=>⟨X::X::X::AV.ref 3 0::X::X::X::AV.d (D.l 3 Large.toD a0)::AV.d (D.i (a0.length:Int))::AV.d (D.i (i2:Int))::dd 7 ([]),N::N::N::some (OB.box (Large.av a1))::nn 13 ([])⟩) ?_ ?_ ?_
  ·exact wk
  ·rintro _ K3 h;(conv=>whnf);refine .go ?_;(conv=>whnf);refine sel_f lt_f ?_;exact join_end wk h
  ·rintro next4 i2 x5 _ K3 hii2 hxi2 hwi2 h hK6;(conv=>whnf);refine .go ?_;(conv=>whnf);refine sel_t (lt_t hii2) ?_;(conv=>whnf);refine .go ?_;refine ⟨idx_b (f:=Large.toD) hii2,Large.toD x5,hxi2,rfl,?_⟩;(conv=>whnf);refine .go ?_;revert h;refine sel_if ?_ ?_<;>intro h
   ·cases h;exact ⟨rfl,rfl⟩
   ·refine ⟨_,hwi2,?_⟩;exact hK6 _ _ wk h
 ·rintro _ h;cases h;exact ⟨rfl,rfl⟩
theorem ref17_AddLarge_ok {wl:Prop} {a0:List Large} {a1:Large} {r:(List Large)×Int} (h:ref17_AddLarge a0 a1=some r):CallsOK (Wl wl) Tryd.prog 82 [AV.d (D.l 3 Large.toD a0),AV.d (Large.toD a1)] [] (.tup [.d (D.l 3 Large.toD r.1),.d (D.i r.2)]) []:=by
 refine ok Tryd.f82 (by kernel_rfl) (by kernel_rfl) ⟨rfl,?_⟩;unfold ref17_AddLarge at h;(conv=>whnf);refine .go ?_;revert h;refine cut_join (fun v1=>⟨AV.d (D.l 3 Large.toD a0)::X::X::AV.ref 3 0::X::X::X::AV.d (D.b v1)::dd 43 ([]),N::N::N::some (OB.box (Large.av a1))::nn 47 ([])⟩) ?_ ?_
 ·intro k2 h;obtain ⟨v3,g4,h⟩:=bind_inv h;refine ⟨_,_,some [],ref17_ValidLarge_ok g4,?_⟩;revert h;refine sel_if ?_ ?_<;>intro h
  ·exact join_end wk h
  ·obtain ⟨v5,g6,h⟩:=bind_inv h;refine ⟨_,_,some [],ref17_rightLarge_ok g6,?_⟩;exact join_end wk h
 ·rintro v1 h;(conv=>whnf);refine .go ?_;revert h;refine sel_if ?_ ?_<;>intro h
  ·(conv=>whnf);refine .inl ?_;refine ⟨rfl,?_⟩;cases h;exact ⟨rfl,rfl⟩
  ·obtain ⟨v7,g8,h⟩:=bind_inv h;refine ⟨_,_,some [],ref17_HasLarge_ok g8,?_⟩;(conv=>whnf);refine .go ?_;revert h;refine sel_if ?_ ?_<;>intro h
   ·obtain ⟨_,g9,h⟩:=bind_inv h;refine ⟨apnd_b0 (g:=Large.toD) g9,?_⟩;(conv=>whnf);refine .inl ?_;refine ⟨rfl,?_⟩;cases h;exact ⟨rfl,rfl⟩
   ·refine ⟨a0.length,List.length_map _,?_⟩;(conv=>whnf);refine .go ?_;revert h;refine sel_if ?_ ?_<;>intro h
    ·(conv=>whnf);refine .inl ?_;refine ⟨rfl,?_⟩;cases h;exact ⟨rfl,rfl⟩
    ·revert h;refine cut_join (fun v10=>⟨AV.d (D.l 3 Large.toD a0)::X::X::AV.ref 3 0::X::X::AV.d (D.i v10)::dd 44 ([]),N::N::N::some (OB.box (Large.av a1))::nn 47 ([])⟩) ?_ ?_
     ·intro k11 h;revert h;refine loop_while (fun v12=>⟨AV.d (D.l 3 Large.toD a0)::X::X::AV.ref 3 0::X::X::AV.d (D.i v12)::dd 44 ([]),N::N::N::some (OB.box (Large.av a1))::nn 47 ([])⟩) ?_ ?_
      ·exact wk
      rintro next13 v12 K14 h hK15;revert h;refine cut_join (fun v16=>⟨AV.d (D.l 3 Large.toD a0)::X::X::AV.ref 3 0::X::X::AV.d (D.i v12)::dd 30 (AV.d (D.b v16)::dd 13 ([])),N::N::N::some (OB.box (Large.av a1))::nn 47 ([])⟩) ?_ ?_
      ·intro k17 h;(conv=>whnf);refine .inl (dOB (by kernel_rfl) ?_);refine ⟨a0.length,List.length_map _,?_⟩;revert h;refine sel_if ?_ ?_<;>intro h
       ·obtain ⟨v18,g19,h⟩:=bind_inv h;refine ⟨geti_b (f:=Large.toD) g19,Large.toD v18,geti_d (f:=Large.toD) g19,rfl,?_⟩;obtain ⟨v20,g21,h⟩:=bind_inv h;refine ⟨_,_,ref17_lessLarge_ok g21,.inl rfl,?_⟩;(conv=>whnf);refine cOB (by kernel_rfl) ?_;exact join_end wk h
       ·(conv=>whnf);refine cOB (by kernel_rfl) ?_;exact join_end wk h
      ·rintro v16 h;(conv=>whnf);refine .go ?_;revert h;refine sel_if ?_ ?_<;>intro h
       ·(conv=>whnf);refine .go ?_;refine ⟨_,rfl,?_⟩;exact hK15 _ _ wk h
       ·exact join_end wk h
     ·rintro v10 h;(conv=>whnf);refine .inl (dOB (by kernel_rfl) ?_);obtain ⟨v22,g23,h⟩:=bind_inv h;refine ⟨part_b (f:=Large.toD) g23,_,part_z (f:=Large.toD) g23,?_⟩;obtain ⟨_,g24,h⟩:=bind_inv h;refine ⟨apnd_b0 (g:=Large.toD) g24,?_⟩;refine ⟨rfl,?_⟩;obtain ⟨v25,g26,h⟩:=bind_inv h;refine ⟨rfl,apnd_b (f:=Large.toD) (g:=Large.toD) g26,_,apnd_z (f:=Large.toD) g26,?_⟩;obtain ⟨v27,g28,h⟩:=bind_inv h;refine ⟨part_b0 (f:=Large.toD) g28,_,part_z0 (f:=Large.toD) g28,?_⟩;obtain ⟨v29,g30,h⟩:=bind_inv h;refine ⟨rfl,apnd_b (f:=Large.toD) (g:=Large.toD) g30,_,apnd_z (f:=Large.toD) g30,?_⟩;(conv=>whnf);refine cOB (by kernel_rfl) ?_;(conv=>whnf);refine .inl ?_;refine ⟨rfl,?_⟩;cases h;exact ⟨rfl,rfl⟩
theorem make_Deck_Communities_ok {wl:Prop} {a0:Deck} {r:(List Community)×(List Large)×Deck} (h:make_Deck_Communities a0=some r):CallsOK (Wl wl) Tryd.prog 67 [.ref 0 0] [.box (Deck.av a0)] (.tup [.d (D.l 2 Community.toD r.1),.d (D.l 3 Large.toD r.2.1)]) [.box (Deck.av r.2.2)]:=by
 refine ok Tryd.f67 (by kernel_rfl) (by kernel_rfl) ⟨rfl,?_⟩;unfold make_Deck_Communities at h;obtain ⟨⟨v1,v2⟩,g3,h⟩:=bind_inv h;refine ⟨_,_,some [],make_Deck_Next_ok g3,?_⟩;revert h;refine cut_join (fun (v4,v5)=>⟨AV.ref 0 0::X::X::X::AV.d (D.l 2 Community.toD v4)::AV.own 6 (List.map Large.toD []).length::dd 50 ([]),some (OB.box (Deck.av v5))::nn 5 (some (OB.row 108 3 (List.map Large.toD []) .no)::nn 50 ([]))⟩) ?_ ?_
 ·intro k6 h;revert h;refine loop_while (fun (v7,v8,v9)=>⟨AV.ref 0 0::X::X::X::AV.d (D.l 2 Community.toD v7)::AV.own 6 (List.map Large.toD []).length::AV.d (D.i v8)::dd 49 ([]),some (OB.box (Deck.av v9))::nn 5 (some (OB.row 108 3 (List.map Large.toD []) .no)::nn 50 ([]))⟩) ?_ ?_
  ·exact wk
  rintro next10 ⟨v7,v8,v9⟩ K11 h hK12;(conv=>whnf);refine .go ?_;revert h;refine sel_if ?_ ?_<;>intro h
  ·(conv=>whnf);refine .go ?_;(conv=>whnf);refine .inl (dOB (by kernel_rfl) ?_);obtain ⟨⟨v13,v14⟩,g15,h⟩:=bind_inv h;refine ⟨_,_,make_Deck_Next_ok g15,.inl rfl,?_⟩;obtain ⟨v16,g17,h⟩:=bind_inv h;refine ⟨rfl,geti_b (f:=D.i) g17,?_⟩;refine ⟨rfl,D.i v16,(geti_d (f:=D.i) g17),?_⟩;obtain ⟨⟨v18,v19⟩,g20,h⟩:=bind_inv h;refine ⟨_,_,make_Deck_Next_ok g20,.inl rfl,?_⟩;refine ⟨_,rfl,?_⟩;obtain ⟨⟨v21,v22⟩,g23,h⟩:=bind_inv h;refine ⟨_,_,make_Deck_Next_ok g23,.inl rfl,?_⟩;obtain ⟨v24,g25,h⟩:=bind_inv h;refine ⟨rfl,geti_b (f:=D.i) g25,?_⟩;refine ⟨rfl,D.i v24,(geti_d (f:=D.i) g25),?_⟩;obtain ⟨⟨v26,v27⟩,g28,h⟩:=bind_inv h;refine ⟨_,_,ref17_Add_ok g28,.inl rfl,?_⟩;(conv=>whnf);refine cOB (by kernel_rfl) ?_;refine ⟨_,rfl,?_⟩;exact hK12 _ _ wk h
  ·exact join_end wk h
 ·rintro ⟨v4,v5⟩ h;obtain ⟨⟨v29,v30⟩,g31,h⟩:=bind_inv h;refine ⟨_,_,some [],make_Deck_Next_ok g31,?_⟩;revert h;refine cut_join (fun (v32,v33)=>⟨dd 4 (AV.d (D.l 2 Community.toD v4)::AV.d (D.l 3 Large.toD v32)::dd 50 ([])),some (OB.box (Deck.av v33))::nn 56 ([])⟩) ?_ ?_
  ·intro k34 h;revert h;refine loop_while (fun (v35,v36,v37)=>⟨AV.ref 0 0::X::X::X::AV.d (D.l 2 Community.toD v4)::AV.d (D.l 3 Large.toD v35)::X::AV.d (D.i v36)::dd 48 ([]),some (OB.box (Deck.av v37))::nn 56 ([])⟩) ?_ ?_
   ·exact wk
   rintro next38 ⟨v35,v36,v37⟩ K39 h hK40;(conv=>whnf);refine .go ?_;revert h;refine sel_if ?_ ?_<;>intro h
   ·(conv=>whnf);refine .go ?_;(conv=>whnf);refine .inl (dOB (by kernel_rfl) ?_);obtain ⟨⟨v41,v42⟩,g43,h⟩:=bind_inv h;refine ⟨_,_,make_Deck_Next_ok g43,.inl rfl,?_⟩;obtain ⟨v44,g45,h⟩:=bind_inv h;refine ⟨rfl,geti_b (f:=D.i) g45,?_⟩;refine ⟨rfl,D.i v44,(geti_d (f:=D.i) g45),?_⟩;obtain ⟨⟨v46,v47⟩,g48,h⟩:=bind_inv h;refine ⟨_,_,make_Deck_Next_ok g48,.inl rfl,?_⟩;obtain ⟨⟨v49,v50⟩,g51,h⟩:=bind_inv h;refine ⟨_,_,make_Deck_Next_ok g51,.inl rfl,?_⟩;obtain ⟨⟨v52,v53⟩,g54,h⟩:=bind_inv h;refine ⟨_,_,ref17_AddLarge_ok g54,.inl rfl,?_⟩;(conv=>whnf);refine cOB (by kernel_rfl) ?_;refine ⟨_,rfl,?_⟩;exact hK40 _ _ wk h
   ·exact join_end wk h
  ·rintro ⟨v32,v33⟩ h;cases h;exact ⟨rfl,rfl⟩
theorem make_Deck_Attrs_ok {wl:Prop} {a0:Deck} {r:Attrs×Deck} (h:make_Deck_Attrs a0=some r):CallsOK (Wl wl) Tryd.prog 27 [.ref 0 0] [.box (Deck.av a0)] (.d (Attrs.toD r.1)) [.box (Deck.av r.2)]:=by
 refine okx 2 Tryd.f27 (by kernel_rfl) (by kernel_rfl) ⟨rfl,?_⟩;unfold make_Deck_Attrs at h;revert h;refine cut_join (fun _=>⟨AV.ref 0 0::X::AV.ref 3 0::dd 4 (AV.d (D.agg [D.i (-1),D.nil 2,D.b false,D.u64 (0:UInt64),D.u64 (0:UInt64),D.i (-1),D.i (-1),D.i (-1),D.nil 2,D.nil 3,D.nil 3])::dd 62 ([])),some (OB.box (Deck.av a0))::N::N::some (OB.box Attrs.zv)::nn 69 ([])⟩) ?_ ?_
 ·intro k1 h;(conv=>whnf);refine inl Tryd.f44 71 (by kernel_rfl) (by kernel_rfl) ⟨rfl,?_⟩;exact join_end wk h
 ·rintro _ h;obtain ⟨⟨v2,v3⟩,g4,h⟩:=bind_inv h;refine ⟨_,_,some [],make_Deck_Next_ok g4,?_⟩;refine ⟨_,rfl,?_⟩;obtain ⟨⟨v5,v6⟩,g7,h⟩:=bind_inv h;refine ⟨_,_,some [],make_Deck_Path_ok g7,?_⟩;obtain ⟨v8,g9,h⟩:=bind_inv h;refine ⟨_,_,some [],make_four_ok g9,?_⟩;obtain ⟨v10,g11,h⟩:=bind_inv h;refine ⟨_,_,some [],make_six_ok g11,?_⟩;obtain ⟨⟨v12,v13⟩,g14,h⟩:=bind_inv h;refine ⟨_,_,some [],make_Deck_Next_ok g14,?_⟩;obtain ⟨v15,g16,h⟩:=bind_inv h;refine ⟨rfl,geti_b (f:=Addr.toD) g16,?_⟩;refine ⟨rfl,Addr.toD v15,(geti_d (f:=Addr.toD) g16),?_⟩;(conv=>whnf);refine .inl (dOB (by kernel_rfl) ?_);obtain ⟨⟨v17,v18⟩,g19,h⟩:=bind_inv h;refine ⟨_,_,make_Deck_Next_ok g19,.inl rfl,?_⟩;obtain ⟨v20,g21,h⟩:=bind_inv h;refine ⟨rfl,geti_b (f:=D.i) g21,?_⟩;refine ⟨rfl,D.i v20,(geti_d (f:=D.i) g21),?_⟩;obtain ⟨⟨v22,v23⟩,g24,h⟩:=bind_inv h;refine ⟨_,_,make_Deck_Next_ok g24,.inl rfl,?_⟩;obtain ⟨v25,g26,h⟩:=bind_inv h;refine ⟨rfl,geti_b (f:=D.i) g26,?_⟩;refine ⟨rfl,D.i v25,(geti_d (f:=D.i) g26),?_⟩;(conv=>whnf);refine cOB (by kernel_rfl) ?_;obtain ⟨⟨v27,v28⟩,g29,h⟩:=bind_inv h;refine ⟨_,_,some [],make_Deck_Next_ok g29,?_⟩;obtain ⟨v30,g31,h⟩:=bind_inv h;refine ⟨rfl,geti_b (f:=D.i) g31,?_⟩;refine ⟨rfl,D.i v30,(geti_d (f:=D.i) g31),?_⟩;obtain ⟨⟨v32,v33,v34⟩,g35,h⟩:=bind_inv h;refine ⟨_,_,some [],make_Deck_Communities_ok g35,?_⟩;refine ⟨([6,7,16,34,200,255]:List Int).length,by first | exact List.length_map _ | rfl | (simp only [List.length_map];omega),?_⟩;revert h;refine cut_join (fun (v36,v37)=>⟨X::X::AV.ref 3 0::AV.ref 4 0::dd 66 ([]),some (OB.box (Deck.av v36))::N::N::some (OB.box Attrs.zv)::some (OB.box [AV.d (D.i (i64w (v2 - 1))),AV.d (D.l 2 Segment.toD v5),AV.d (D.b v15.V6),AV.d (D.u64 v15.Hi),AV.d (D.u64 v15.Lo),AV.d (D.i v20),AV.d (D.i v25),AV.d (D.i v30),AV.d (D.l 2 Community.toD v32),AV.d (D.l 3 Large.toD v33),AV.own 67 (List.map Unknown.toD v37).length])::nn 62 (some (OB.row 30 3 (List.map Unknown.toD v37) .no)::nn 5 ([]))⟩) ?_ ?_
  ·intro k38 h;revert h;refine loop_own 51 3 1 .no D.i rfl (fun i39 (v40,v41)=>⟨AV.ref 0 0::X::AV.ref 3 0::AV.ref 4 0::dd 46 (AV.own 51 (List.map D.i ([6,7,16,34,200,255]:List Int)).length::AV.d (D.i (([6,7,16,34,200,255]:List Int).length:Int))::AV.d (D.i (i39:Int))::dd 17 ([])),some (OB.box (Deck.av v40))::N::N::some (OB.box Attrs.zv)::some (OB.box [AV.d (D.i (i64w (v2 - 1))),AV.d (D.l 2 Segment.toD v5),AV.d (D.b v15.V6),AV.d (D.u64 v15.Hi),AV.d (D.u64 v15.Lo),AV.d (D.i v20),AV.d (D.i v25),AV.d (D.i v30),AV.d (D.l 2 Community.toD v32),AV.d (D.l 3 Large.toD v33),AV.own 67 (List.map Unknown.toD v41).length])::nn 46 (some (OB.row 3 1 (List.map D.i ([6,7,16,34,200,255]:List Int)) .no)::nn 15 (some (OB.row 30 3 (List.map Unknown.toD v41) .no)::nn 5 ([])))⟩) ?_ ?_ ?_
   ·exact wk
   ·rintro ⟨v40,v41⟩ K42 h;(conv=>whnf);refine .go ?_;exact join_end wk h
   ·rintro next43 i39 x44 ⟨v40,v41⟩ K42 hii39 hxi39 hwi39 h hK45;(conv=>whnf);refine .go ?_;(conv=>whnf);refine sel_t (lt_t hii39) ?_;(conv=>whnf);refine .go ?_;refine ⟨rfl,idx_b (f:=D.i) hii39,?_⟩;refine ⟨rfl,D.i x44,hxi39,?_⟩;obtain ⟨⟨v46,v47⟩,g48,h⟩:=bind_inv h;refine ⟨_,_,some [],make_Deck_Next_ok g48,?_⟩;revert h;refine cut_join (fun (v49,v50)=>⟨AV.ref 0 0::X::AV.ref 3 0::AV.ref 4 0::dd 46 (AV.own 51 (List.map D.i ([6,7,16,34,200,255]:List Int)).length::AV.d (D.i (([6,7,16,34,200,255]:List Int).length:Int))::AV.d (D.i (i39:Int))::dd 17 ([])),some (OB.box (Deck.av v49))::N::N::some (OB.box Attrs.zv)::some (OB.box [AV.d (D.i (i64w (v2 - 1))),AV.d (D.l 2 Segment.toD v5),AV.d (D.b v15.V6),AV.d (D.u64 v15.Hi),AV.d (D.u64 v15.Lo),AV.d (D.i v20),AV.d (D.i v25),AV.d (D.i v30),AV.d (D.l 2 Community.toD v32),AV.d (D.l 3 Large.toD v33),AV.own 67 (List.map Unknown.toD v50).length])::nn 46 (some (OB.row 3 1 (List.map D.i ([6,7,16,34,200,255]:List Int)) .no)::nn 15 (some (OB.row 30 3 (List.map Unknown.toD v50) .no)::nn 5 ([])))⟩) ?_ ?_
    ·intro k51 h;revert h;refine sel_if ?_ ?_<;>intro h
     ·(conv=>whnf);refine .inl (dOB (by kernel_rfl) ?_);obtain ⟨⟨v52,v53⟩,g54,h⟩:=bind_inv h;refine ⟨_,_,make_Deck_Bytes_ok g54,.inl rfl,?_⟩;refine ⟨rfl,?_⟩;obtain ⟨v55,g56,h⟩:=bind_inv h;refine ⟨rfl,apnd_b (f:=Unknown.toD) (g:=Unknown.toD) g56,_,apnd_z (f:=Unknown.toD) g56,?_⟩;(conv=>whnf);refine cOB (by kernel_rfl) ?_;exact join_end wk h
     ·exact join_end wk h
    ·rintro ⟨v49,v50⟩ h;refine ⟨_,hwi39,?_⟩;exact hK45 _ _ wk h
  ·rintro ⟨v36,v37⟩ h;(conv=>whnf);refine .inl ?_;refine ⟨rfl,?_⟩;cases h;exact ⟨rfl,rfl⟩
theorem ref18_flags_ok {wl:Prop} {a0:Int} {r:Int} (h:ref18_flags a0=some r):CallsOK (Wl wl) Tryd.prog 45 [AV.d (D.i a0)] [] (.d (D.i r)) []:=by
 refine ok Tryd.f45 (by kernel_rfl) (by kernel_rfl) ⟨rfl,?_⟩;unfold ref18_flags at h;(conv=>whnf);refine .go ?_;revert h;refine cut_join (fun v1=>⟨X::X::X::AV.d (D.i a0)::AV.d (D.b v1)::dd 10 ([]),nn 15 ([])⟩) ?_ ?_
 ·intro k2 h;revert h;refine sel_if ?_ ?_<;>intro h
  ·exact join_end wk h
  ·revert h;refine cut_join (fun v3=>⟨X::X::X::AV.d (D.i a0)::AV.d (D.b v3)::dd 10 ([]),nn 15 ([])⟩) ?_ ?_
   ·intro k4 h;revert h;refine sel_if ?_ ?_<;>intro h
    ·exact join_end wk h
    ·revert h;refine cut_join (fun v5=>⟨X::X::X::AV.d (D.i a0)::AV.d (D.b v5)::dd 10 ([]),nn 15 ([])⟩) ?_ ?_
     ·intro k6 h;revert h;refine sel_if ?_ ?_<;>intro h
      ·exact join_end wk h
      ·exact join_end wk h
     ·rintro v5 h;exact join_end wk h
   ·rintro v3 h;exact join_end wk h
 ·rintro v1 h;(conv=>whnf);refine .go ?_;revert h;refine sel_if ?_ ?_<;>intro h
  ·cases h;exact ⟨rfl,rfl⟩
  ·(conv=>whnf);refine .go ?_;revert h;refine sel_if ?_ ?_<;>intro h
   ·cases h;exact ⟨rfl,rfl⟩
   ·revert h;refine cut_join (fun v7=>⟨dd 11 (AV.d (D.b v7)::X::X::X::[]),nn 15 ([])⟩) ?_ ?_
    ·intro k8 h;revert h;refine sel_if ?_ ?_<;>intro h
     ·exact join_end wk h
     ·revert h;refine cut_join (fun v9=>⟨dd 11 (AV.d (D.b v9)::X::X::X::[]),nn 15 ([])⟩) ?_ ?_
      ·intro k10 h;revert h;refine sel_if ?_ ?_<;>intro h
       ·exact join_end wk h
       ·exact join_end wk h
      ·rintro v9 h;exact join_end wk h
    ·rintro v7 h;(conv=>whnf);refine .go ?_;revert h;refine sel_if ?_ ?_<;>intro h
     ·cases h;exact ⟨rfl,rfl⟩
     ·cases h;exact ⟨rfl,rfl⟩
theorem ref18_unknown_ok {wl:Prop} {a0:Int} {r:Bool} (h:ref18_unknown a0=some r):CallsOK (Wl wl) Tryd.prog 43 [AV.d (D.i a0)] [] (.d (D.b r)) []:=by
 refine ok Tryd.f43 (by kernel_rfl) (by kernel_rfl) ⟨rfl,?_⟩;unfold ref18_unknown at h;revert h;refine cut_join (fun v1=>⟨X::X::AV.d (D.b v1)::dd 11 ([]),nn 14 ([])⟩) ?_ ?_
 ·intro k2 h;obtain ⟨v3,g4,h⟩:=bind_inv h;refine ⟨_,_,some [],ref18_flags_ok g4,?_⟩;revert h;refine sel_if ?_ ?_<;>intro h
  ·revert h;refine sel_if ?_ ?_<;>intro h
   ·exact join_end wk h
   ·exact join_end wk h
  ·exact join_end wk h
 ·rintro v1 h;cases h;exact ⟨rfl,rfl⟩
theorem ref01_Valid_ok {wl:Prop} {a0:Addr} {r:Bool} (h:ref01_Valid a0=some r):CallsOK (Wl wl) Tryd.prog 90 [AV.d (Addr.toD a0)] [] (.d (D.b r)) []:=by
 refine ok Tryd.f90 (by kernel_rfl) (by kernel_rfl) ⟨rfl,?_⟩;unfold ref01_Valid at h;revert h;refine cut_join (fun v1=>⟨X::X::AV.d (D.b v1)::dd 12 ([]),nn 15 ([])⟩) ?_ ?_
 ·intro k2 h;revert h;refine sel_if ?_ ?_<;>intro h
  ·exact join_end wk h
  ·revert h;refine sel_if ?_ ?_<;>intro h
   ·exact join_end wk h
   ·exact join_end wk h
 ·rintro v1 h;cases h;exact ⟨rfl,rfl⟩
end Go.AX.Q18
end
section
namespace Go.AX.Q18
open Go Go.AX Go.Proofs
set_option maxRecDepth 100000
set_option maxHeartbeats 4000000
set_option linter.unusedVariables false
theorem ref18_Valid_ok {wl:Prop} {a0:Attrs} {r:Bool} (h:ref18_Valid a0=some r):CallsOK (Wl wl) Tryd.prog 69 [AV.d (Attrs.toD a0)] [] (.d (D.b r)) []:=by
 refine ok Tryd.f69 (by kernel_rfl) (by kernel_rfl) ⟨rfl,?_⟩;unfold ref18_Valid at h;refine ⟨a0.Other.length,List.length_map _,?_⟩;revert h;refine cut_join (fun _=>⟨X::AV.ref 1 0::dd 122 ([]),N::some (OB.box (Attrs.av a0))::nn 122 ([])⟩) ?_ ?_
 ·intro k1 h;revert h;refine loop_for 6 3 Unknown.toD rfl (fun i2 _=>⟨X::AV.ref 1 0::dd 4 (AV.d (D.l 3 Unknown.toD a0.Other)::AV.d (D.i (a0.Other.length:Int))::AV.d (D.i (i2:Int))::dd 115 ([])),N::some (OB.box (Attrs.av a0))::nn 122 ([])⟩) ?_ ?_ ?_
  ·exact wk
  ·rintro _ K3 h;(conv=>whnf);refine .go ?_;(conv=>whnf);refine sel_f lt_f ?_;exact join_end wk h
  ·rintro next4 i2 x5 _ K3 hii2 hxi2 hwi2 h hK6;(conv=>whnf);refine .go ?_;(conv=>whnf);refine sel_t (lt_t hii2) ?_;(conv=>whnf);refine .go ?_;refine ⟨idx_b (f:=Unknown.toD) hii2,Unknown.toD x5,hxi2,rfl,?_⟩;revert h;refine cut_join (fun v7=>⟨X::AV.ref 1 0::dd 4 (AV.d (D.l 3 Unknown.toD a0.Other)::AV.d (D.i (a0.Other.length:Int))::AV.d (D.i (i2:Int))::dd 44 (AV.d (D.b v7)::dd 70 ([]))),N::some (OB.box (Attrs.av a0))::nn 122 ([])⟩) ?_ ?_
   ·intro k8 h;(conv=>whnf);refine .inl (dOB (by kernel_rfl) ?_);revert h;refine sel_if ?_ ?_<;>intro h
    ·(conv=>whnf);refine cOB (by kernel_rfl) ?_;exact join_end wk h
    ·revert h;refine sel_if ?_ ?_<;>intro h
     ·(conv=>whnf);refine cOB (by kernel_rfl) ?_;exact join_end wk h
     ·obtain ⟨v9,g10,h⟩:=bind_inv h;refine ⟨_,_,ref18_unknown_ok g10,.inl rfl,?_⟩;revert h;refine sel_if ?_ ?_<;>intro h
      ·(conv=>whnf);refine cOB (by kernel_rfl) ?_;exact join_end wk h
      ·revert h;refine sel_if ?_ ?_<;>intro h
       ·(conv=>whnf);refine cOB (by kernel_rfl) ?_;exact join_end wk h
       ·refine ⟨x5.Data.length,List.length_map _,?_⟩;revert h;refine sel_if ?_ ?_<;>intro h
        ·(conv=>whnf);refine cOB (by kernel_rfl) ?_;exact join_end wk h
        ·revert h;refine sel_if ?_ ?_<;>intro h
         ·refine ⟨_,rfl,?_⟩;obtain ⟨v11,g12,h⟩:=bind_inv h;refine ⟨geti_b (f:=Unknown.toD) g12,Unknown.toD v11,geti_d (f:=Unknown.toD) g12,rfl,?_⟩;(conv=>whnf);refine cOB (by kernel_rfl) ?_;exact join_end wk h
         ·(conv=>whnf);refine cOB (by kernel_rfl) ?_;exact join_end wk h
   ·rintro v7 h;(conv=>whnf);refine .go ?_;revert h;refine sel_if ?_ ?_<;>intro h
    ·cases h;exact ⟨rfl,rfl⟩
    ·refine ⟨_,hwi2,?_⟩;exact hK6 _ _ wk h
 ·rintro _ h;revert h;refine cut_join (fun v13=>⟨X::X::AV.d (D.b v13)::dd 121 ([]),nn 124 ([])⟩) ?_ ?_
  ·intro k14 h;revert h;refine sel_if ?_ ?_<;>intro h
   ·revert h;refine sel_if ?_ ?_<;>intro h
    ·obtain ⟨v15,g16,h⟩:=bind_inv h;refine ⟨_,_,some [],ref15_Valid_ok g16,?_⟩;revert h;refine sel_if ?_ ?_<;>intro h
     ·obtain ⟨v17,g18,h⟩:=bind_inv h;refine ⟨_,_,some [],ref01_Valid_ok g18,?_⟩;revert h;refine sel_if ?_ ?_<;>intro h
      ·revert h;refine sel_if ?_ ?_<;>intro h
       ·revert h;refine sel_if ?_ ?_<;>intro h
        ·revert h;refine sel_if ?_ ?_<;>intro h
         ·revert h;refine sel_if ?_ ?_<;>intro h
          ·revert h;refine sel_if ?_ ?_<;>intro h
           ·obtain ⟨v19,g20,h⟩:=bind_inv h;refine ⟨_,_,some [],ref17_Valid_ok g20,?_⟩;revert h;refine sel_if ?_ ?_<;>intro h
            ·obtain ⟨v21,g22,h⟩:=bind_inv h;refine ⟨_,_,some [],ref17_ValidLarge_ok g22,?_⟩;revert h;refine sel_if ?_ ?_<;>intro h
             ·refine ⟨a0.Other.length,List.length_map _,?_⟩;exact join_end wk h
             ·exact join_end wk h
            ·exact join_end wk h
           ·revert h;refine sel_if ?_ ?_<;>intro h
            ·revert h;refine sel_if ?_ ?_<;>intro h
             ·obtain ⟨v23,g24,h⟩:=bind_inv h;refine ⟨_,_,some [],ref17_Valid_ok g24,?_⟩;revert h;refine sel_if ?_ ?_<;>intro h
              ·obtain ⟨v25,g26,h⟩:=bind_inv h;refine ⟨_,_,some [],ref17_ValidLarge_ok g26,?_⟩;revert h;refine sel_if ?_ ?_<;>intro h
               ·refine ⟨a0.Other.length,List.length_map _,?_⟩;exact join_end wk h
               ·exact join_end wk h
              ·exact join_end wk h
             ·exact join_end wk h
            ·exact join_end wk h
          ·exact join_end wk h
         ·exact join_end wk h
        ·exact join_end wk h
       ·exact join_end wk h
      ·exact join_end wk h
     ·exact join_end wk h
    ·exact join_end wk h
   ·exact join_end wk h
  ·rintro v13 h;cases h;exact ⟨rfl,rfl⟩
theorem ref18_word_ok {wl:Prop} {a0:Int} {a1:Int} {r:(List UInt8)} (h:ref18_word a0 a1=some r):CallsOK (Wl wl) Tryd.prog 70 [AV.d (D.i a0),AV.d (D.i a1)] [] (.d (D.l 1 D.u8 r)) []:=by
 refine ok Tryd.f70 (by kernel_rfl) (by kernel_rfl) ⟨rfl,?_⟩;unfold ref18_word at h;refine ⟨_,rfl,?_⟩;revert h;refine cut_join (fun v1=>⟨dd 5 (AV.own 5 (List.map D.u8 v1).length::dd 17 ([])),nn 5 (some (OB.row 5 1 (List.map D.u8 v1) .no)::nn 17 ([]))⟩) ?_ ?_
 ·intro k2 h;revert h;refine loop_while (fun (v3,v4)=>⟨AV.d (D.i a0)::dd 4 (AV.own 5 (List.map D.u8 v4).length::AV.d (D.i v3)::dd 16 ([])),nn 5 (some (OB.row 5 1 (List.map D.u8 v4) .no)::nn 17 ([]))⟩) ?_ ?_
  ·exact wk
  rintro next5 ⟨v3,v4⟩ K6 h hK7;(conv=>whnf);refine .go ?_;revert h;refine sel_if ?_ ?_<;>intro h
  ·(conv=>whnf);refine .go ?_;refine ⟨_,u64_wrap _,?_⟩;refine ⟨_,u64_wrap _,?_⟩;refine ⟨Int.natCast_nonneg _,_,rfl,?_⟩;refine ⟨_,u8_wrap _,?_⟩;refine ⟨rfl,?_⟩;obtain ⟨v8,g9,h⟩:=bind_inv h;refine ⟨rfl,apnd_b (f:=D.u8) (g:=D.u8) g9,_,apnd_z (f:=D.u8) g9,?_⟩;refine ⟨_,rfl,?_⟩;exact hK7 _ _ wk h
  ·exact join_end wk h
 ·rintro v1 h;(conv=>whnf);refine .inl ?_;(conv=>whnf);refine .inl ?_;refine ⟨rfl,?_⟩;cases h;exact ⟨rfl,rfl⟩
theorem ref01_Bytes_ok {wl:Prop} {a0:Addr} {r:(List UInt8)} (h:ref01_Bytes a0=some r):CallsOK (Wl wl) Tryd.prog 71 [AV.d (Addr.toD a0)] [] (.d (D.l 1 D.u8 r)) []:=by
 refine ok Tryd.f71 (by kernel_rfl) (by kernel_rfl) ⟨rfl,?_⟩;unfold ref01_Bytes at h;obtain ⟨v1,g2,h⟩:=bind_inv h;refine ⟨_,_,some [],ref01_Valid_ok g2,?_⟩;(conv=>whnf);refine .go ?_;revert h;refine sel_if ?_ ?_<;>intro h
 ·(conv=>whnf);refine .inl ?_;cases h;exact ⟨rfl,rfl⟩
 ·revert h;refine cut_join (fun v3=>⟨X::AV.ref 1 0::X::AV.d (D.i v3)::dd 31 ([]),N::some (OB.box (Addr.av a0))::nn 33 ([])⟩) ?_ ?_
  ·intro k4 h;revert h;refine sel_if ?_ ?_<;>intro h
   ·exact join_end wk h
   ·exact join_end wk h
  ·rintro v3 h;refine ⟨_,rfl,?_⟩;revert h;refine cut_join (fun v5=>⟨dd 4 (AV.own 4 (List.map D.u8 v5).length::dd 30 ([])),nn 4 (some (OB.row 5 1 (List.map D.u8 v5) .no)::nn 30 ([]))⟩) ?_ ?_
   ·intro k6 h;revert h;refine loop_while (fun (v7,v8)=>⟨X::AV.ref 1 0::X::X::AV.own 4 (List.map D.u8 v8).length::AV.d (D.i v7)::dd 29 ([]),N::some (OB.box (Addr.av a0))::N::N::some (OB.row 5 1 (List.map D.u8 v8) .no)::nn 30 ([])⟩) ?_ ?_
    ·exact wk
    rintro next9 ⟨v7,v8⟩ K10 h hK11;(conv=>whnf);refine .go ?_;revert h;refine sel_if ?_ ?_<;>intro h
    ·(conv=>whnf);refine .go ?_;revert h;refine cut_join (fun v12=>⟨X::AV.ref 1 0::X::X::AV.own 4 (List.map D.u8 v8).length::AV.d (D.i v7)::AV.d (D.u64 v12)::dd 28 ([]),N::some (OB.box (Addr.av a0))::N::N::some (OB.row 5 1 (List.map D.u8 v8) .no)::nn 30 ([])⟩) ?_ ?_
     ·intro k13 h;revert h;refine sel_if ?_ ?_<;>intro h
      ·exact join_end wk h
      ·exact join_end wk h
     ·rintro v12 h;refine ⟨by decide,_,rfl,?_⟩;refine ⟨_,u64_wrap _,?_⟩;refine ⟨_,u64_wrap _,?_⟩;refine ⟨Int.natCast_nonneg _,_,u64_shr v12 _,?_⟩;refine ⟨_,u8_wrap _,?_⟩;refine ⟨rfl,?_⟩;obtain ⟨v14,g15,h⟩:=bind_inv h;refine ⟨rfl,apnd_b (f:=D.u8) (g:=D.u8) g15,_,apnd_z (f:=D.u8) g15,?_⟩;refine ⟨_,rfl,?_⟩;exact hK11 _ _ wk h
    ·exact join_end wk h
   ·rintro v5 h;(conv=>whnf);refine .inl ?_;(conv=>whnf);refine .inl ?_;refine ⟨rfl,?_⟩;cases h;exact ⟨rfl,rfl⟩
end Go.AX.Q18
end
section
namespace Go.AX.Q18
open Go Go.AX Go.Proofs
set_option maxRecDepth 100000
set_option maxHeartbeats 4000000
set_option linter.unusedVariables false
theorem ref18_Write_ok {wl:Prop} {a0:Attrs} {r:(List Unknown)×Int} (h:ref18_Write a0=some r):CallsOK (Wl wl) Tryd.prog 29 [AV.d (Attrs.toD a0)] [] (.tup [.d (D.l 3 Unknown.toD r.1),.d (D.i r.2)]) []:=by
 refine ok Tryd.f29 (by kernel_rfl) (by kernel_rfl) ⟨rfl,?_⟩;unfold ref18_Write at h;obtain ⟨v1,g2,h⟩:=bind_inv h;refine ⟨_,_,some [],ref18_Valid_ok g2,?_⟩;(conv=>whnf);refine .go ?_;revert h;refine sel_if ?_ ?_<;>intro h
 ·cases h;exact ⟨rfl,rfl⟩
 ·revert h;refine cut_join (fun v3=>⟨X::AV.ref 1 0::X::X::AV.own 4 (List.map Unknown.toD []).length::AV.mp 24::dd 189 ([]),N::some (OB.box (Attrs.av a0))::N::N::some (OB.row 30 3 (List.map Unknown.toD []) .no)::nn 19 (some (OB.map 3 28 (entsD D.i (D.l 1 D.u8) v3))::nn 170 ([]))⟩) ?_ ?_
  ·intro k4 h;revert h;refine sel_if ?_ ?_<;>intro h
   ·refine ⟨_,u8_wrap _,?_⟩;(conv=>whnf);refine .inl ?_;refine ⟨rfl,?_⟩;refine ⟨_,mapSet_ok (ek:=D.i) (ev:=(D.l 1 D.u8)) (l:=[]) (k:=1) (v:=([(toU8 a0.Origin)]:List UInt8)) keyEq_i,?_⟩;exact join_end wk h
   ·exact join_end wk h
  ·rintro v3 h;revert h;refine cut_join (fun v5=>⟨X::AV.ref 1 0::X::X::AV.own 4 (List.map Unknown.toD []).length::AV.mp 24::dd 35 (AV.d (D.b v5)::dd 153 ([])),N::some (OB.box (Attrs.av a0))::N::N::some (OB.row 30 3 (List.map Unknown.toD []) .no)::nn 19 (some (OB.map 3 28 (entsD D.i (D.l 1 D.u8) v3))::nn 170 ([]))⟩) ?_ ?_
   ·intro k6 h;revert h;refine sel_if ?_ ?_<;>intro h
    ·exact join_end wk h
    ·refine ⟨a0.Path.length,List.length_map _,?_⟩;exact join_end wk h
   ·rintro v5 h;revert h;refine cut_join (fun v7=>⟨X::AV.ref 1 0::X::X::AV.own 4 (List.map Unknown.toD []).length::AV.mp 24::dd 189 ([]),N::some (OB.box (Attrs.av a0))::N::N::some (OB.row 30 3 (List.map Unknown.toD []) .no)::nn 19 (some (OB.map 3 28 (entsD D.i (D.l 1 D.u8) v7))::nn 170 ([]))⟩) ?_ ?_
    ·intro k8 h;revert h;refine sel_if ?_ ?_<;>intro h
     ·refine ⟨a0.Path.length,List.length_map _,?_⟩;revert h;refine cut_join (fun v9=>⟨X::AV.ref 1 0::X::X::AV.own 4 (List.map Unknown.toD []).length::AV.mp 24::AV.own 42 (List.map D.u8 v9).length::dd 188 ([]),N::some (OB.box (Attrs.av a0))::N::N::some (OB.row 30 3 (List.map Unknown.toD []) .no)::nn 19 (some (OB.map 3 28 (entsD D.i (D.l 1 D.u8) v3))::nn 17 (some (OB.row 5 1 (List.map D.u8 v9) .no)::nn 152 ([])))⟩) ?_ ?_
      ·intro k10 h;revert h;refine loop_for 44 2 Segment.toD rfl (fun i11 v12=>⟨X::AV.ref 1 0::X::X::AV.own 4 (List.map Unknown.toD []).length::AV.mp 24::AV.own 42 (List.map D.u8 v12).length::dd 37 (AV.d (D.l 2 Segment.toD a0.Path)::AV.d (D.i (a0.Path.length:Int))::AV.d (D.i (i11:Int))::dd 148 ([])),N::some (OB.box (Attrs.av a0))::N::N::some (OB.row 30 3 (List.map Unknown.toD []) .no)::nn 19 (some (OB.map 3 28 (entsD D.i (D.l 1 D.u8) v3))::nn 17 (some (OB.row 5 1 (List.map D.u8 v12) .no)::nn 152 ([])))⟩) ?_ ?_ ?_
       ·exact wk
       ·rintro v12 K13 h;(conv=>whnf);refine .go ?_;(conv=>whnf);refine sel_f lt_f ?_;exact join_end wk h
       ·rintro next14 i11 x15 v12 K13 hii11 hxi11 hwi11 h hK16;(conv=>whnf);refine .go ?_;(conv=>whnf);refine sel_t (lt_t hii11) ?_;revert h;refine cut_join (fun v17=>⟨X::AV.ref 1 0::X::X::AV.own 4 (List.map Unknown.toD []).length::AV.mp 24::AV.own 42 (List.map D.u8 v17).length::dd 37 (AV.d (D.l 2 Segment.toD a0.Path)::AV.d (D.i (a0.Path.length:Int))::AV.d (D.i (i11:Int))::dd 148 ([])),N::some (OB.box (Attrs.av a0))::N::N::some (OB.row 30 3 (List.map Unknown.toD []) .no)::nn 19 (some (OB.map 3 28 (entsD D.i (D.l 1 D.u8) v3))::nn 17 (some (OB.row 5 1 (List.map D.u8 v17) .no)::nn 152 ([])))⟩) ?_ ?_
        ·intro k18 h;refine ⟨idx_b (f:=Segment.toD) hii11,Segment.toD x15,hxi11,rfl,?_⟩;revert h;refine cut_join (fun v19=>⟨X::AV.ref 1 0::X::X::AV.own 4 (List.map Unknown.toD []).length::AV.mp 24::AV.own 42 (List.map D.u8 v12).length::X::AV.ref 8 0::AV.d (D.u8 v19)::dd 34 (AV.d (D.l 2 Segment.toD a0.Path)::AV.d (D.i (a0.Path.length:Int))::AV.d (D.i (i11:Int))::dd 148 ([])),N::some (OB.box (Attrs.av a0))::N::N::some (OB.row 30 3 (List.map Unknown.toD []) .no)::N::N::N::some (OB.box (Segment.av x15))::nn 15 (some (OB.map 3 28 (entsD D.i (D.l 1 D.u8) v3))::nn 17 (some (OB.row 5 1 (List.map D.u8 v12) .no)::nn 152 ([])))⟩) ?_ ?_
         ·intro k20 h;revert h;refine sel_if ?_ ?_<;>intro h
          ·exact join_end wk h
          ·exact join_end wk h
         ·rintro v19 h;refine ⟨x15.ASNs.length,List.length_map _,?_⟩;refine ⟨_,u8_wrap _,?_⟩;refine ⟨rfl,?_⟩;obtain ⟨v21,g22,h⟩:=bind_inv h;refine ⟨rfl,apnd_b (f:=D.u8) (g:=D.u8) g22,_,apnd_z (f:=D.u8) g22,?_⟩;refine ⟨x15.ASNs.length,List.length_map _,?_⟩;revert h;refine cut_join (fun v23=>⟨X::AV.ref 1 0::X::X::AV.own 4 (List.map Unknown.toD []).length::AV.mp 24::AV.own 42 (List.map D.u8 v23).length::dd 37 (AV.d (D.l 2 Segment.toD a0.Path)::AV.d (D.i (a0.Path.length:Int))::AV.d (D.i (i11:Int))::dd 148 ([])),N::some (OB.box (Attrs.av a0))::N::N::some (OB.row 30 3 (List.map Unknown.toD []) .no)::nn 19 (some (OB.map 3 28 (entsD D.i (D.l 1 D.u8) v3))::nn 17 (some (OB.row 5 1 (List.map D.u8 v23) .no)::nn 152 ([])))⟩) ?_ ?_
          ·intro k24 h;revert h;refine loop_for 61 1 D.i rfl (fun i25 v26=>⟨X::AV.ref 1 0::X::X::AV.own 4 (List.map Unknown.toD []).length::AV.mp 24::AV.own 42 (List.map D.u8 v26).length::dd 37 (AV.d (D.l 2 Segment.toD a0.Path)::AV.d (D.i (a0.Path.length:Int))::AV.d (D.i (i11:Int))::dd 14 (AV.d (D.l 1 D.i x15.ASNs)::AV.d (D.i (x15.ASNs.length:Int))::AV.d (D.i (i25:Int))::dd 131 ([]))),N::some (OB.box (Attrs.av a0))::N::N::some (OB.row 30 3 (List.map Unknown.toD []) .no)::nn 19 (some (OB.map 3 28 (entsD D.i (D.l 1 D.u8) v3))::nn 17 (some (OB.row 5 1 (List.map D.u8 v26) .no)::nn 152 ([])))⟩) ?_ ?_ ?_
           ·exact wk
           ·rintro v26 K27 h;(conv=>whnf);refine .go ?_;(conv=>whnf);refine sel_f lt_f ?_;exact join_end wk h
           ·rintro next28 i25 x29 v26 K27 hii25 hxi25 hwi25 h hK30;(conv=>whnf);refine .go ?_;(conv=>whnf);refine sel_t (lt_t hii25) ?_;(conv=>whnf);refine .go ?_;refine ⟨idx_b (f:=D.i) hii25,D.i x29,hxi25,rfl,?_⟩;obtain ⟨v31,g32,h⟩:=bind_inv h;refine ⟨_,_,some [],ref18_word_ok g32,?_⟩;obtain ⟨v33,g34,h⟩:=bind_inv h;refine ⟨rfl,apnd_b (f:=D.u8) (g:=D.u8) g34,_,apnd_z (f:=D.u8) g34,?_⟩;refine ⟨_,hwi25,?_⟩;exact hK30 _ _ wk h
          ·rintro v23 h;exact join_end wk h
        ·rintro v17 h;refine ⟨_,hwi11,?_⟩;exact hK16 _ _ wk h
      ·rintro v9 h;(conv=>whnf);refine .inl ?_;refine ⟨rfl,?_⟩;refine ⟨_,mapSet_ok (ek:=D.i) (ev:=(D.l 1 D.u8)) (l:=v3) (k:=2) (v:=v9) keyEq_i,?_⟩;exact join_end wk h
     ·exact join_end wk h
    ·rintro v7 h;revert h;refine cut_join (fun v35=>⟨X::AV.ref 1 0::X::X::AV.own 4 (List.map Unknown.toD []).length::AV.mp 24::dd 78 (AV.d (D.b v35)::dd 110 ([])),N::some (OB.box (Attrs.av a0))::N::N::some (OB.row 30 3 (List.map Unknown.toD []) .no)::nn 19 (some (OB.map 3 28 (entsD D.i (D.l 1 D.u8) v7))::nn 170 ([]))⟩) ?_ ?_
     ·intro k36 h;revert h;refine sel_if ?_ ?_<;>intro h
      ·exact join_end wk h
      ·exact join_end wk h
     ·rintro v35 h;revert h;refine cut_join (fun v37=>⟨X::AV.ref 1 0::X::X::AV.own 4 (List.map Unknown.toD []).length::AV.mp 24::dd 189 ([]),N::some (OB.box (Attrs.av a0))::N::N::some (OB.row 30 3 (List.map Unknown.toD []) .no)::nn 19 (some (OB.map 3 28 (entsD D.i (D.l 1 D.u8) v37))::nn 170 ([]))⟩) ?_ ?_
      ·intro k38 h;revert h;refine sel_if ?_ ?_<;>intro h
       ·obtain ⟨v39,g40,h⟩:=bind_inv h;refine ⟨_,_,some [],ref01_Bytes_ok g40,?_⟩;refine ⟨_,mapSet_ok (ek:=D.i) (ev:=(D.l 1 D.u8)) (l:=v7) (k:=3) (v:=v39) keyEq_i,?_⟩;exact join_end wk h
       ·exact join_end wk h
      ·rintro v37 h;revert h;refine cut_join (fun v41=>⟨X::AV.ref 1 0::X::X::AV.own 4 (List.map Unknown.toD []).length::AV.mp 24::dd 189 ([]),N::some (OB.box (Attrs.av a0))::N::N::some (OB.row 30 3 (List.map Unknown.toD []) .no)::nn 19 (some (OB.map 3 28 (entsD D.i (D.l 1 D.u8) v41))::nn 170 ([]))⟩) ?_ ?_
       ·intro k42 h;revert h;refine sel_if ?_ ?_<;>intro h
        ·obtain ⟨v43,g44,h⟩:=bind_inv h;refine ⟨_,_,some [],ref18_word_ok g44,?_⟩;refine ⟨_,mapSet_ok (ek:=D.i) (ev:=(D.l 1 D.u8)) (l:=v37) (k:=4) (v:=v43) keyEq_i,?_⟩;exact join_end wk h
        ·exact join_end wk h
       ·rintro v41 h;revert h;refine cut_join (fun v45=>⟨X::AV.ref 1 0::X::X::AV.own 4 (List.map Unknown.toD []).length::AV.mp 24::dd 189 ([]),N::some (OB.box (Attrs.av a0))::N::N::some (OB.row 30 3 (List.map Unknown.toD []) .no)::nn 19 (some (OB.map 3 28 (entsD D.i (D.l 1 D.u8) v45))::nn 170 ([]))⟩) ?_ ?_
        ·intro k46 h;revert h;refine sel_if ?_ ?_<;>intro h
         ·obtain ⟨v47,g48,h⟩:=bind_inv h;refine ⟨_,_,some [],ref18_word_ok g48,?_⟩;refine ⟨_,mapSet_ok (ek:=D.i) (ev:=(D.l 1 D.u8)) (l:=v41) (k:=5) (v:=v47) keyEq_i,?_⟩;exact join_end wk h
         ·exact join_end wk h
        ·rintro v45 h;refine ⟨a0.Communities.length,List.length_map _,?_⟩;revert h;refine cut_join (fun (v49,v50)=>⟨X::AV.ref 1 0::X::X::AV.own 4 (List.map Unknown.toD []).length::AV.mp 24::dd 189 ([]),N::some (OB.box (Attrs.av a0))::N::N::some (OB.row 30 3 (List.map Unknown.toD []) .no)::nn 19 (some (OB.amap 3 28 (entsD D.i (D.l 1 D.u8) v49) (.int .i64 8) 112 (List.map D.u8 v50).length)::nn 87 (some (OB.row 5 1 (List.map D.u8 v50) .yes)::nn 82 ([])))⟩) ?_ ?_
         ·intro k51 h;obtain ⟨_,g52,h⟩:=bind_inv h;revert h;refine loop_for 104 2 Community.toD rfl (fun i53 (v54,v55)=>⟨X::AV.ref 1 0::X::X::AV.own 4 (List.map Unknown.toD []).length::AV.mp 24::dd 98 (AV.d (D.l 2 Community.toD a0.Communities)::AV.d (D.i (a0.Communities.length:Int))::AV.d (D.i (i53:Int))::dd 88 ([])),N::some (OB.box (Attrs.av a0))::N::N::some (OB.row 30 3 (List.map Unknown.toD []) .no)::nn 19 (some (OB.amap 3 28 (entsD D.i (D.l 1 D.u8) v54) (.int .i64 8) 112 (List.map D.u8 v55).length)::nn 87 (some (OB.row 5 1 (List.map D.u8 v55) .yes)::nn 82 ([])))⟩) ?_ ?_ ?_
          ·exact (.mk rfl (And.intro (.refl _) (And.intro (.refl _) (And.intro (.refl _) (And.intro (.refl _) (And.intro (.refl _) (And.intro (.refl _) True.intro)))))) (And.intro ⟨_,rfl,And.intro ⟨rfl,.refl _⟩ (And.intro ⟨rfl,.refl _⟩ (And.intro ⟨rfl,.refl _⟩ (And.intro ⟨rfl,.refl _⟩ (And.intro ⟨rfl,.refl _⟩ (And.intro ⟨rfl,.refl _⟩ (And.intro ⟨rfl,.refl _⟩ (And.intro ⟨rfl,.refl _⟩ (And.intro ⟨rfl,.refl _⟩ (And.intro ⟨rfl,.refl _⟩ (And.intro ⟨rfl,.refl _⟩ (True.intro)))))))))))⟩ (And.intro (.inl ⟨_,rfl,⟨id,trivial⟩⟩) (And.intro (.inr ⟨.inl rfl,⟨_,mapGet_none keyEq_i g52⟩,rfl,rfl,_,_,_,rfl⟩) (And.intro (.inr ⟨rfl,rfl,by decide⟩) (True.intro))))) rfl)
          ·rintro ⟨v54,v55⟩ K56 h;(conv=>whnf);refine .go ?_;(conv=>whnf);refine sel_f lt_f ?_;exact join_end wk h
          ·rintro next57 i53 x58 ⟨v54,v55⟩ K56 hii53 hxi53 hwi53 h hK59;(conv=>whnf);refine .go ?_;(conv=>whnf);refine sel_t (lt_t hii53) ?_;(conv=>whnf);refine .go ?_;refine ⟨idx_b (f:=Community.toD) hii53,Community.toD x58,hxi53,rfl,?_⟩;(conv=>whnf);refine .inl (dOB (by kernel_rfl) ?_);(conv=>whnf);refine .inr ⟨rfl,rfl,⟨_,mapGet_ok (ek:=D.i) (ev:=(D.l 1 D.u8)) (l:=v54) (k:=8) keyEq_i⟩,rfl,?_⟩;obtain ⟨v60,g61,h⟩:=bind_inv h;refine ⟨_,_,ref18_word_ok g61,.inl rfl,?_⟩;obtain ⟨v62,g63,h⟩:=bind_inv h;refine ⟨rfl,apnd_b (f:=D.u8) (g:=D.u8) g63,_,apnd_z (f:=D.u8) g63,?_⟩;obtain ⟨v64,g65,h⟩:=bind_inv h;refine ⟨_,_,ref18_word_ok g65,.inl rfl,?_⟩;obtain ⟨v66,g67,h⟩:=bind_inv h;refine ⟨rfl,apnd_b (f:=D.u8) (g:=D.u8) g67,_,apnd_z (f:=D.u8) g67,?_⟩;(conv=>whnf);refine .inr ?_;refine ⟨rfl,?_⟩;refine ⟨_,mapSet_ok (ek:=D.i) (ev:=(D.l 1 D.u8)) (l:=v54) (k:=8) (v:=v66) keyEq_i,?_⟩;(conv=>whnf);refine cOB (by kernel_rfl) ?_;refine ⟨_,hwi53,?_⟩;exact hK59 _ _ wk h
         ·rintro ⟨v49,v50⟩ h;refine ⟨a0.Large.length,List.length_map _,?_⟩;revert h;refine cut_join (fun (v68,v69)=>⟨X::AV.ref 1 0::X::X::AV.own 4 (List.map Unknown.toD []).length::AV.mp 24::dd 189 ([]),N::some (OB.box (Attrs.av a0))::N::N::some (OB.row 30 3 (List.map Unknown.toD []) .no)::nn 19 (some (OB.amap 3 28 (entsD D.i (D.l 1 D.u8) v68) (.int .i64 32) 131 (List.map D.u8 v69).length)::nn 106 (some (OB.row 5 1 (List.map D.u8 v69) .yes)::nn 63 ([])))⟩) ?_ ?_
          ·intro k70 h;obtain ⟨_,g71,h⟩:=bind_inv h;revert h;refine loop_for 123 3 Large.toD rfl (fun i72 (v73,v74)=>⟨X::AV.ref 1 0::X::X::AV.own 4 (List.map Unknown.toD []).length::AV.mp 24::dd 117 (AV.d (D.l 3 Large.toD a0.Large)::AV.d (D.i (a0.Large.length:Int))::AV.d (D.i (i72:Int))::dd 69 ([])),N::some (OB.box (Attrs.av a0))::N::N::some (OB.row 30 3 (List.map Unknown.toD []) .no)::nn 19 (some (OB.amap 3 28 (entsD D.i (D.l 1 D.u8) v73) (.int .i64 32) 131 (List.map D.u8 v74).length)::nn 106 (some (OB.row 5 1 (List.map D.u8 v74) .yes)::nn 63 ([])))⟩) ?_ ?_ ?_
           ·exact (.mk rfl (And.intro (.refl _) (And.intro (.refl _) (And.intro (.refl _) (And.intro (.refl _) (And.intro (.refl _) (And.intro (.refl _) True.intro)))))) (And.intro ⟨_,rfl,And.intro ⟨rfl,.refl _⟩ (And.intro ⟨rfl,.refl _⟩ (And.intro ⟨rfl,.refl _⟩ (And.intro ⟨rfl,.refl _⟩ (And.intro ⟨rfl,.refl _⟩ (And.intro ⟨rfl,.refl _⟩ (And.intro ⟨rfl,.refl _⟩ (And.intro ⟨rfl,.refl _⟩ (And.intro ⟨rfl,.refl _⟩ (And.intro ⟨rfl,.refl _⟩ (And.intro ⟨rfl,.refl _⟩ (True.intro)))))))))))⟩ (And.intro (.inl ⟨_,rfl,⟨id,trivial⟩⟩) (And.intro (.inr ⟨.inr ⟨_,_,_,rfl⟩,⟨_,mapGet_none keyEq_i g71⟩,rfl,rfl,_,_,_,rfl⟩) (And.intro (.inr ⟨rfl,rfl,by decide⟩) (True.intro))))) rfl)
           ·rintro ⟨v73,v74⟩ K75 h;(conv=>whnf);refine .go ?_;(conv=>whnf);refine sel_f lt_f ?_;exact join_end wk h
           ·rintro next76 i72 x77 ⟨v73,v74⟩ K75 hii72 hxi72 hwi72 h hK78;(conv=>whnf);refine .go ?_;(conv=>whnf);refine sel_t (lt_t hii72) ?_;(conv=>whnf);refine .go ?_;refine ⟨idx_b (f:=Large.toD) hii72,Large.toD x77,hxi72,rfl,?_⟩;(conv=>whnf);refine .inl (dOB (by kernel_rfl) ?_);(conv=>whnf);refine .inr ⟨rfl,rfl,⟨_,mapGet_ok (ek:=D.i) (ev:=(D.l 1 D.u8)) (l:=v73) (k:=32) keyEq_i⟩,rfl,?_⟩;obtain ⟨v79,g80,h⟩:=bind_inv h;refine ⟨_,_,ref18_word_ok g80,.inl rfl,?_⟩;obtain ⟨v81,g82,h⟩:=bind_inv h;refine ⟨rfl,apnd_b (f:=D.u8) (g:=D.u8) g82,_,apnd_z (f:=D.u8) g82,?_⟩;obtain ⟨v83,g84,h⟩:=bind_inv h;refine ⟨_,_,ref18_word_ok g84,.inl rfl,?_⟩;obtain ⟨v85,g86,h⟩:=bind_inv h;refine ⟨rfl,apnd_b (f:=D.u8) (g:=D.u8) g86,_,apnd_z (f:=D.u8) g86,?_⟩;obtain ⟨v87,g88,h⟩:=bind_inv h;refine ⟨_,_,ref18_word_ok g88,.inl rfl,?_⟩;obtain ⟨v89,g90,h⟩:=bind_inv h;refine ⟨rfl,apnd_b (f:=D.u8) (g:=D.u8) g90,_,apnd_z (f:=D.u8) g90,?_⟩;(conv=>whnf);refine .inr ?_;refine ⟨rfl,?_⟩;refine ⟨_,mapSet_ok (ek:=D.i) (ev:=(D.l 1 D.u8)) (l:=v73) (k:=32) (v:=v89) keyEq_i,?_⟩;(conv=>whnf);refine cOB (by kernel_rfl) ?_;refine ⟨_,hwi72,?_⟩;exact hK78 _ _ wk h
          ·rintro ⟨v68,v69⟩ h;revert h;refine cut_join (fun v91=>⟨X::AV.ref 1 0::X::X::AV.own 4 (List.map Unknown.toD []).length::AV.mp 24::dd 189 ([]),N::some (OB.box (Attrs.av a0))::N::N::some (OB.row 30 3 (List.map Unknown.toD []) .no)::nn 19 (some (OB.map 3 28 (entsD D.i (D.l 1 D.u8) v91))::nn 170 ([]))⟩) ?_ ?_
           ·intro k92 h;revert h;refine sel_if ?_ ?_<;>intro h
            ·obtain ⟨v93,g94,h⟩:=bind_inv h;refine ⟨_,_,some [],ref18_word_ok g94,?_⟩;refine ⟨_,mapSet_ok (ek:=D.i) (ev:=(D.l 1 D.u8)) (l:=v68) (k:=35) (v:=v93) keyEq_i,?_⟩;exact join_end wk h
            ·exact join_end wk h
           ·rintro v91 h;revert h;refine cut_join (fun v95=>⟨dd 4 (AV.own 4 (List.map Unknown.toD v95).length::dd 190 ([])),nn 4 (some (OB.row 30 3 (List.map Unknown.toD v95) .no)::nn 190 ([]))⟩) ?_ ?_
            ·intro k96 h;revert h;refine loop_while (fun (v97,v98)=>⟨X::AV.ref 1 0::X::X::AV.own 4 (List.map Unknown.toD v98).length::AV.mp 24::dd 146 (AV.d (D.i v97)::dd 42 ([])),N::some (OB.box (Attrs.av a0))::N::N::some (OB.row 30 3 (List.map Unknown.toD v98) .no)::nn 19 (some (OB.map 3 28 (entsD D.i (D.l 1 D.u8) v91))::nn 170 ([]))⟩) ?_ ?_
             ·exact wk
             rintro next99 ⟨v97,v98⟩ K100 h hK101;(conv=>whnf);refine .go ?_;revert h;refine sel_if ?_ ?_<;>intro h
             ·revert h;refine cut_join (fun v102=>⟨X::AV.ref 1 0::X::X::AV.own 4 (List.map Unknown.toD v102).length::AV.mp 24::dd 146 (AV.d (D.i v97)::dd 42 ([])),N::some (OB.box (Attrs.av a0))::N::N::some (OB.row 30 3 (List.map Unknown.toD v102) .no)::nn 19 (some (OB.map 3 28 (entsD D.i (D.l 1 D.u8) v91))::nn 170 ([]))⟩) ?_ ?_
              ·intro k103 h;obtain ⟨v104,g105,h⟩:=bind_inv h;obtain ⟨v106,g107,h⟩:=bind_inv h;refine ⟨_,mapGet_ok (ek:=D.i) (ev:=(D.l 1 D.u8)) (l:=v91) (k:=v97) keyEq_i,(D.l 1 D.u8) v104,mget_dg (z:=[]) rfl g105,v106,mget_sg g107,?_⟩;revert h;refine cut_join (fun v108=>⟨X::AV.ref 1 0::X::X::AV.own 4 (List.map Unknown.toD v108).length::AV.mp 24::dd 10 (AV.d (D.i v97)::dd 135 (AV.d (D.i v97)::dd 42 ([]))),N::some (OB.box (Attrs.av a0))::N::N::some (OB.row 30 3 (List.map Unknown.toD v108) .no)::nn 19 (some (OB.map 3 28 (entsD D.i (D.l 1 D.u8) v91))::nn 170 ([]))⟩) ?_ ?_
               ·intro k109 h;revert h;refine sel_if ?_ ?_<;>intro h
                ·obtain ⟨v110,g111,h⟩:=bind_inv h;refine ⟨_,_,some [],ref18_flags_ok g111,?_⟩;obtain ⟨_,g112,h⟩:=bind_inv h;refine ⟨apnd_b0 (g:=D.u8) g112,?_⟩;(conv=>whnf);refine .inl ?_;refine ⟨rfl,?_⟩;refine ⟨rfl,?_⟩;obtain ⟨v113,g114,h⟩:=bind_inv h;refine ⟨rfl,apnd_b (f:=Unknown.toD) (g:=Unknown.toD) g114,_,apnd_z (f:=Unknown.toD) g114,?_⟩;exact join_end wk h
                ·exact join_end wk h
               ·rintro v108 h;refine ⟨a0.Other.length,List.length_map _,?_⟩;revert h;refine cut_join (fun v115=>⟨X::AV.ref 1 0::X::X::AV.own 4 (List.map Unknown.toD v115).length::AV.mp 24::dd 146 (AV.d (D.i v97)::dd 42 ([])),N::some (OB.box (Attrs.av a0))::N::N::some (OB.row 30 3 (List.map Unknown.toD v115) .no)::nn 19 (some (OB.map 3 28 (entsD D.i (D.l 1 D.u8) v91))::nn 170 ([]))⟩) ?_ ?_
                ·intro k116 h;revert h;refine loop_for 172 3 Unknown.toD rfl (fun i117 v118=>⟨X::AV.ref 1 0::X::X::AV.own 4 (List.map Unknown.toD v118).length::AV.mp 24::dd 10 (AV.d (D.i v97)::dd 135 (AV.d (D.i v97)::dd 19 (AV.d (D.l 3 Unknown.toD a0.Other)::AV.d (D.i (a0.Other.length:Int))::AV.d (D.i (i117:Int))::dd 20 ([])))),N::some (OB.box (Attrs.av a0))::N::N::some (OB.row 30 3 (List.map Unknown.toD v118) .no)::nn 19 (some (OB.map 3 28 (entsD D.i (D.l 1 D.u8) v91))::nn 170 ([]))⟩) ?_ ?_ ?_
                 ·exact wk
                 ·rintro v118 K119 h;(conv=>whnf);refine .go ?_;(conv=>whnf);refine sel_f lt_f ?_;exact join_end wk h
                 ·rintro next120 i117 x121 v118 K119 hii117 hxi117 hwi117 h hK122;(conv=>whnf);refine .go ?_;(conv=>whnf);refine sel_t (lt_t hii117) ?_;(conv=>whnf);refine .go ?_;refine ⟨idx_b (f:=Unknown.toD) hii117,Unknown.toD x121,hxi117,rfl,?_⟩;revert h;refine cut_join (fun v123=>⟨X::AV.ref 1 0::X::X::AV.own 4 (List.map Unknown.toD v123).length::AV.mp 24::dd 10 (AV.d (D.i v97)::dd 135 (AV.d (D.i v97)::dd 19 (AV.d (D.l 3 Unknown.toD a0.Other)::AV.d (D.i (a0.Other.length:Int))::AV.d (D.i (i117:Int))::dd 20 ([])))),N::some (OB.box (Attrs.av a0))::N::N::some (OB.row 30 3 (List.map Unknown.toD v123) .no)::nn 19 (some (OB.map 3 28 (entsD D.i (D.l 1 D.u8) v91))::nn 170 ([]))⟩) ?_ ?_
                  ·intro k124 h;revert h;refine sel_if ?_ ?_<;>intro h
                   ·(conv=>whnf);refine .inl (dOB (by kernel_rfl) ?_);obtain ⟨_,g125,h⟩:=bind_inv h;refine ⟨apnd_b0 (g:=D.u8) g125,?_⟩;(conv=>whnf);refine .inl ?_;refine ⟨rfl,?_⟩;refine ⟨rfl,?_⟩;obtain ⟨v126,g127,h⟩:=bind_inv h;refine ⟨rfl,apnd_b (f:=Unknown.toD) (g:=Unknown.toD) g127,_,apnd_z (f:=Unknown.toD) g127,?_⟩;(conv=>whnf);refine cOB (by kernel_rfl) ?_;exact join_end wk h
                   ·exact join_end wk h
                  ·rintro v123 h;refine ⟨_,hwi117,?_⟩;exact hK122 _ _ wk h
                ·rintro v115 h;exact join_end wk h
              ·rintro v102 h;refine ⟨_,rfl,?_⟩;exact hK101 _ _ wk h
             ·exact join_end wk h
            ·rintro v95 h;(conv=>whnf);refine .inl ?_;refine ⟨rfl,?_⟩;cases h;exact ⟨rfl,rfl⟩
end Go.AX.Q18
end
section
namespace Go.AX.Q18
open Go Go.AX Go.Proofs
set_option maxRecDepth 100000
set_option maxHeartbeats 4000000
set_option linter.unusedVariables false
theorem law18_list_ok {wl:Prop} {a0:Deck} {r:(List Unknown)×Deck} (h:law18_list a0=some r):CallsOK (Wl wl) Tryd.prog 10 [.ref 0 0] [.box (Deck.av a0)] (.d (D.l 3 Unknown.toD r.1)) [.box (Deck.av r.2)]:=by
 refine ok Tryd.f10 (by kernel_rfl) (by kernel_rfl) ⟨rfl,?_⟩;unfold law18_list at h;obtain ⟨⟨v1,v2⟩,g3,h⟩:=bind_inv h;refine ⟨_,_,some [],make_Deck_Attrs_ok g3,?_⟩;obtain ⟨⟨v4,v5⟩,g6,h⟩:=bind_inv h;refine ⟨_,_,some [],ref18_Write_ok g6,?_⟩;obtain ⟨⟨v7,v8⟩,g9,h⟩:=bind_inv h;refine ⟨_,_,some [],make_Deck_Next_ok g9,?_⟩;revert h;refine cut_join (fun (v10,v11)=>⟨X::X::X::AV.d (D.l 3 Unknown.toD v10)::dd 90 ([]),some (OB.box (Deck.av v11))::nn 94 ([])⟩) ?_ ?_
 ·intro k12 h;revert h;refine loop_while (fun (v13,v14,v15)=>⟨AV.ref 0 0::X::X::AV.d (D.l 3 Unknown.toD v13)::X::AV.d (D.i v14)::dd 88 ([]),some (OB.box (Deck.av v15))::nn 94 ([])⟩) ?_ ?_
  ·exact wk
  rintro next16 ⟨v13,v14,v15⟩ K17 h hK18;(conv=>whnf);refine .go ?_;revert h;refine sel_if ?_ ?_<;>intro h
  ·(conv=>whnf);refine .go ?_;(conv=>whnf);refine .inl (dOB (by kernel_rfl) ?_);obtain ⟨⟨v19,v20⟩,g21,h⟩:=bind_inv h;refine ⟨_,_,make_Deck_Next_ok g21,.inl rfl,?_⟩;obtain ⟨v22,g23,h⟩:=bind_inv h;refine ⟨rfl,geti_b (f:=D.i) g23,?_⟩;refine ⟨rfl,D.i v22,(geti_d (f:=D.i) g23),?_⟩;obtain ⟨⟨v24,v25⟩,g26,h⟩:=bind_inv h;refine ⟨_,_,make_Deck_Next_ok g26,.inl rfl,?_⟩;obtain ⟨v27,g28,h⟩:=bind_inv h;refine ⟨rfl,geti_b (f:=D.i) g28,?_⟩;refine ⟨rfl,D.i v27,(geti_d (f:=D.i) g28),?_⟩;obtain ⟨⟨v29,v30⟩,g31,h⟩:=bind_inv h;refine ⟨_,_,make_Deck_Bytes_ok g31,.inl rfl,?_⟩;(conv=>whnf);refine cOB (by kernel_rfl) ?_;revert h;refine cut_join (fun (v32,v33)=>⟨AV.ref 0 0::X::X::AV.d (D.l 3 Unknown.toD v13)::X::AV.d (D.i v14)::AV.ref 7 0::dd 33 (AV.d (D.b v32)::dd 53 ([])),some (OB.box (Deck.av v33))::nn 6 (some (OB.box [AV.d (D.i v22),AV.d (D.i v27),AV.d (D.l 1 D.u8 v29)])::nn 87 ([]))⟩) ?_ ?_
   ·intro k34 h;refine ⟨v13.length,List.length_map _,?_⟩;revert h;refine sel_if ?_ ?_<;>intro h
    ·obtain ⟨⟨v35,v36⟩,g37,h⟩:=bind_inv h;refine ⟨_,_,some [],make_Deck_Next_ok g37,?_⟩;exact join_end wk h
    ·exact join_end wk h
   ·rintro ⟨v32,v33⟩ h;revert h;refine cut_join (fun (v38,v39)=>⟨AV.ref 0 0::X::X::AV.d (D.l 3 Unknown.toD v13)::X::AV.d (D.i v14)::AV.ref 7 0::dd 87 ([]),some (OB.box (Deck.av v38))::nn 6 (some (OB.box (Unknown.av v39))::nn 87 ([]))⟩) ?_ ?_
    ·intro k40 h;revert h;refine sel_if ?_ ?_<;>intro h
     ·refine ⟨v13.length,List.length_map _,?_⟩;obtain ⟨⟨v41,v42⟩,g43,h⟩:=bind_inv h;refine ⟨_,_,some [],make_Deck_Next_ok g43,?_⟩;obtain ⟨v44,g45,h⟩:=bind_inv h;refine ⟨geti_b (f:=Unknown.toD) g45,Unknown.toD v44,geti_d (f:=Unknown.toD) g45,rfl,?_⟩;obtain ⟨⟨v46,v47⟩,g48,h⟩:=bind_inv h;refine ⟨_,_,some [],make_Deck_Next_ok g48,?_⟩;(conv=>whnf);refine .go ?_;revert h;refine cut_join (fun (v49,v50)=>⟨AV.ref 0 0::X::X::AV.d (D.l 3 Unknown.toD v13)::X::AV.d (D.i v14)::AV.ref 7 0::dd 87 ([]),some (OB.box (Deck.av v49))::nn 6 (some (OB.box (Unknown.av v50))::nn 87 ([]))⟩) ?_ ?_
      ·intro k51 h;revert h;refine sel_if ?_ ?_<;>intro h
       ·obtain ⟨⟨v52,v53⟩,g54,h⟩:=bind_inv h;refine ⟨_,_,some [],make_Deck_Next_ok g54,?_⟩;obtain ⟨v55,g56,h⟩:=bind_inv h;refine ⟨rfl,geti_b (f:=D.i) g56,?_⟩;refine ⟨rfl,D.i v55,(geti_d (f:=D.i) g56),?_⟩;exact join_end wk h
       ·revert h;refine cut_join (fun (v57,v58)=>⟨AV.ref 0 0::X::X::AV.d (D.l 3 Unknown.toD v13)::X::AV.d (D.i v14)::AV.ref 7 0::dd 87 ([]),some (OB.box (Deck.av v57))::nn 6 (some (OB.box [AV.d (D.i v44.Flags),AV.d (D.i v44.Type_),AV.d (D.l 1 D.u8 v58)])::nn 87 ([]))⟩) ?_ ?_
        ·intro k59 h;revert h;refine sel_if ?_ ?_<;>intro h
         ·(conv=>whnf);refine .inl (dOB (by kernel_rfl) ?_);obtain ⟨⟨v60,v61⟩,g62,h⟩:=bind_inv h;refine ⟨_,_,make_Deck_Next_ok g62,.inl rfl,?_⟩;obtain ⟨⟨v63,v64⟩,g65,h⟩:=bind_inv h;refine ⟨_,_,make_Deck_Next_ok g65,.inl rfl,?_⟩;obtain ⟨v66,g67,h⟩:=bind_inv h;refine ⟨_,_,make_Spoilt_ok g67,.inl rfl,?_⟩;(conv=>whnf);refine cOB (by kernel_rfl) ?_;exact join_end wk h
         ·revert h;refine cut_join (fun v68=>⟨AV.ref 0 0::X::X::AV.d (D.l 3 Unknown.toD v13)::X::AV.d (D.i v14)::AV.ref 7 0::dd 87 ([]),some (OB.box (Deck.av v47))::nn 6 (some (OB.box [AV.d (D.i v44.Flags),AV.d (D.i v44.Type_),AV.d (D.l 1 D.u8 v68)])::nn 87 ([]))⟩) ?_ ?_
          ·intro k69 h;revert h;refine sel_if ?_ ?_<;>intro h
           ·(conv=>whnf);refine .inl (dOB (by kernel_rfl) ?_);obtain ⟨_,g70,h⟩:=bind_inv h;refine ⟨apnd_b0 (g:=D.u8) g70,?_⟩;obtain ⟨v71,g72,h⟩:=bind_inv h;refine ⟨rfl,apnd_b (f:=D.u8) (g:=D.u8) g72,_,apnd_z (f:=D.u8) g72,?_⟩;(conv=>whnf);refine cOB (by kernel_rfl) ?_;exact join_end wk h
           ·exact join_end wk h
          ·rintro v68 h;exact join_end wk h
        ·rintro ⟨v57,v58⟩ h;exact join_end wk h
      ·rintro ⟨v49,v50⟩ h;exact join_end wk h
     ·exact join_end wk h
    ·rintro ⟨v38,v39⟩ h;refine ⟨v13.length,List.length_map _,?_⟩;refine ⟨_,rfl,?_⟩;obtain ⟨⟨v73,v74⟩,g75,h⟩:=bind_inv h;refine ⟨_,_,some [],make_Deck_Next_ok g75,?_⟩;(conv=>whnf);refine .inl (dOB (by kernel_rfl) ?_);obtain ⟨v76,g77,h⟩:=bind_inv h;refine ⟨part_b (f:=Unknown.toD) g77,_,part_z (f:=Unknown.toD) g77,?_⟩;obtain ⟨_,g78,h⟩:=bind_inv h;refine ⟨apnd_b0 (g:=Unknown.toD) g78,?_⟩;refine ⟨rfl,?_⟩;obtain ⟨v79,g80,h⟩:=bind_inv h;refine ⟨rfl,apnd_b (f:=Unknown.toD) (g:=Unknown.toD) g80,_,apnd_z (f:=Unknown.toD) g80,?_⟩;obtain ⟨v81,g82,h⟩:=bind_inv h;refine ⟨part_b0 (f:=Unknown.toD) g82,_,part_z0 (f:=Unknown.toD) g82,?_⟩;obtain ⟨v83,g84,h⟩:=bind_inv h;refine ⟨rfl,apnd_b (f:=Unknown.toD) (g:=Unknown.toD) g84,_,apnd_z (f:=Unknown.toD) g84,?_⟩;(conv=>whnf);refine cOB (by kernel_rfl) ?_;refine ⟨_,rfl,?_⟩;exact hK18 _ _ wk h
  ·exact join_end wk h
 ·rintro ⟨v10,v11⟩ h;cases h;exact ⟨rfl,rfl⟩
theorem attribute_firsts_ok {wl:Prop} {a0:List Unknown} {r:(List Unknown)} (h:attribute_firsts a0=some r):CallsOK (Wl wl) Tryd.prog 32 [AV.d (D.l 3 Unknown.toD a0)] [] (.d (D.l 3 Unknown.toD r)) []:=by
 refine ok Tryd.f32 (by kernel_rfl) (by kernel_rfl) ⟨rfl,?_⟩;unfold attribute_firsts at h;refine ⟨a0.length,List.length_map _,?_⟩;revert h;refine cut_join (fun v1=>⟨dd 4 (AV.own 4 (List.map Unknown.toD v1).length::dd 23 ([])),nn 4 (some (OB.row 30 3 (List.map Unknown.toD v1) .no)::nn 23 ([]))⟩) ?_ ?_
 ·intro k2 h;revert h;refine loop_for 8 3 Unknown.toD rfl (fun i3 (v4,v5)=>⟨X::X::X::AV.mp 7::AV.own 4 (List.map Unknown.toD v5).length::X::X::X::AV.d (D.l 3 Unknown.toD a0)::AV.d (D.i (a0.length:Int))::AV.d (D.i (i3:Int))::dd 17 ([]),nn 4 (some (OB.row 30 3 (List.map Unknown.toD v5) .no)::N::N::some (OB.map 3 4 (entsD D.i D.b v4))::nn 20 ([]))⟩) ?_ ?_ ?_
  ·exact wk
  ·rintro ⟨v4,v5⟩ K6 h;(conv=>whnf);refine .go ?_;(conv=>whnf);refine sel_f lt_f ?_;exact join_end wk h
  ·rintro next7 i3 x8 ⟨v4,v5⟩ K6 hii3 hxi3 hwi3 h hK9;(conv=>whnf);refine .go ?_;(conv=>whnf);refine sel_t (lt_t hii3) ?_;(conv=>whnf);refine .go ?_;refine ⟨idx_b (f:=Unknown.toD) hii3,Unknown.toD x8,hxi3,rfl,?_⟩;obtain ⟨v10,g11,h⟩:=bind_inv h;refine ⟨_,mapGet_ok (ek:=D.i) (ev:=D.b) (l:=v4) (k:=x8.Type_) keyEq_i,D.b v10,mget_dg (z:=false) rfl g11,_,rfl,?_⟩;revert h;refine cut_join (fun v12=>⟨X::X::X::AV.mp 7::AV.own 4 (List.map Unknown.toD v12).length::X::AV.ref 6 0::X::AV.d (D.l 3 Unknown.toD a0)::AV.d (D.i (a0.length:Int))::AV.d (D.i (i3:Int))::dd 17 ([]),nn 4 (some (OB.row 30 3 (List.map Unknown.toD v12) .no)::N::some (OB.box (Unknown.av x8))::some (OB.map 3 4 (entsD D.i D.b v4))::nn 20 ([]))⟩) ?_ ?_
   ·intro k13 h;revert h;refine sel_if ?_ ?_<;>intro h
    ·refine ⟨rfl,?_⟩;obtain ⟨v14,g15,h⟩:=bind_inv h;refine ⟨rfl,apnd_b (f:=Unknown.toD) (g:=Unknown.toD) g15,_,apnd_z (f:=Unknown.toD) g15,?_⟩;exact join_end wk h
    ·exact join_end wk h
   ·rintro v12 h;refine ⟨_,mapSet_ok (ek:=D.i) (ev:=D.b) (l:=v4) (k:=x8.Type_) (v:=true) keyEq_i,?_⟩;refine ⟨_,hwi3,?_⟩;exact hK9 _ _ wk h
 ·rintro v1 h;(conv=>whnf);refine .inl ?_;(conv=>whnf);refine .inl ?_;refine ⟨rfl,?_⟩;cases h;exact ⟨rfl,rfl⟩
theorem attribute_unknown_ok {wl:Prop} {a0:Int} {r:Bool} (h:attribute_unknown a0=some r):CallsOK (Wl wl) Tryd.prog 35 [AV.d (D.i a0)] [] (.d (D.b r)) []:=by
 refine ok Tryd.f35 (by kernel_rfl) (by kernel_rfl) ⟨rfl,?_⟩;unfold attribute_unknown at h;revert h;refine cut_join (fun v1=>⟨X::X::AV.d (D.b v1)::dd 12 ([]),nn 15 ([])⟩) ?_ ?_
 ·intro k2 h;obtain ⟨v3,g4,h⟩:=bind_inv h;refine ⟨_,mapGet_ok (ek:=D.i) (ev:=D.i) (l:=glob0) (k:=a0) keyEq_i,D.i v3,mget_dg (z:=0) rfl g4,_,rfl,?_⟩;revert h;refine sel_if ?_ ?_<;>intro h
  ·revert h;refine sel_if ?_ ?_<;>intro h
   ·exact join_end wk h
   ·exact join_end wk h
  ·exact join_end wk h
 ·rintro v1 h;cases h;exact ⟨rfl,rfl⟩
theorem attribute_Read_1_ok {wl:Prop} {a0:Unknown} {r:Bool} (h:attribute_Read_1 a0=some r):CallsOK (Wl wl) Tryd.prog 34 [AV.d (Unknown.toD a0)] [] (.d (D.b r)) []:=by
 refine ok Tryd.f34 (by kernel_rfl) (by kernel_rfl) ⟨rfl,?_⟩;unfold attribute_Read_1 at h;revert h;refine cut_join (fun v1=>⟨X::X::AV.d (D.b v1)::dd 9 ([]),nn 12 ([])⟩) ?_ ?_
 ·intro k2 h;obtain ⟨v3,g4,h⟩:=bind_inv h;refine ⟨_,_,some [],attribute_unknown_ok g4,?_⟩;revert h;refine sel_if ?_ ?_<;>intro h
  ·refine ⟨_,rfl,?_⟩;exact join_end wk h
  ·exact join_end wk h
 ·rintro v1 h;cases h;exact ⟨rfl,rfl⟩
theorem attribute_right_ok {wl:Prop} {a0:Unknown} {r:Bool} (h:attribute_right a0=some r):CallsOK (Wl wl) Tryd.prog 74 [AV.d (Unknown.toD a0)] [] (.d (D.b r)) []:=by
 refine ok Tryd.f74 (by kernel_rfl) (by kernel_rfl) ⟨rfl,?_⟩;unfold attribute_right at h;revert h;refine cut_join (fun v1=>⟨X::X::AV.d (D.b v1)::dd 22 ([]),nn 25 ([])⟩) ?_ ?_
 ·intro k2 h;obtain ⟨v3,g4,h⟩:=bind_inv h;refine ⟨_,mapGet_ok (ek:=D.i) (ev:=D.i) (l:=glob0) (k:=a0.Type_) keyEq_i,D.i v3,mget_dg (z:=0) rfl g4,_,rfl,?_⟩;refine ⟨_,rfl,?_⟩;refine ⟨_,rfl,?_⟩;revert h;refine sel_if ?_ ?_<;>intro h
  ·obtain ⟨v5,g6,h⟩:=bind_inv h;refine ⟨_,mapGet_ok (ek:=D.i) (ev:=D.i) (l:=glob0) (k:=a0.Type_) keyEq_i,D.i v5,mget_dg (z:=0) rfl g6,_,rfl,?_⟩;revert h;refine sel_if ?_ ?_<;>intro h
   ·exact join_end wk h
   ·refine ⟨_,rfl,?_⟩;exact join_end wk h
  ·exact join_end wk h
 ·rintro v1 h;cases h;exact ⟨rfl,rfl⟩
theorem attribute_get_ok {wl:Prop} {a0:List UInt8} {r:Int} (h:attribute_get a0=some r):CallsOK (Wl wl) Tryd.prog 50 [AV.d (D.l 1 D.u8 a0)] [] (.d (D.i r)) []:=by
 refine ok Tryd.f50 (by kernel_rfl) (by kernel_rfl) ⟨rfl,?_⟩;unfold attribute_get at h;refine ⟨a0.length,List.length_map _,?_⟩;revert h;refine cut_join (fun v1=>⟨X::X::X::AV.d (D.i v1)::dd 15 ([]),nn 19 ([])⟩) ?_ ?_
 ·intro k2 h;revert h;refine loop_for 6 1 D.u8 rfl (fun i3 v4=>⟨X::X::X::AV.d (D.i v4)::X::X::AV.d (D.l 1 D.u8 a0)::AV.d (D.i (a0.length:Int))::AV.d (D.i (i3:Int))::dd 10 ([]),nn 19 ([])⟩) ?_ ?_ ?_
  ·exact wk
  ·rintro v4 K5 h;(conv=>whnf);refine .go ?_;(conv=>whnf);refine sel_f lt_f ?_;exact join_end wk h
  ·rintro next6 i3 x7 v4 K5 hii3 hxi3 hwi3 h hK8;(conv=>whnf);refine .go ?_;(conv=>whnf);refine sel_t (lt_t hii3) ?_;(conv=>whnf);refine .go ?_;refine ⟨idx_b (f:=D.u8) hii3,D.u8 x7,hxi3,rfl,?_⟩;refine ⟨by decide,_,rfl,?_⟩;refine ⟨_,i64_of_u8 x7,?_⟩;refine ⟨_,rfl,?_⟩;refine ⟨_,hwi3,?_⟩;exact hK8 _ _ wk h
 ·rintro v1 h;cases h;exact ⟨rfl,rfl⟩
theorem aspath_Number_ok {wl:Prop} {a0:Int} {r:Bool} (h:aspath_Number a0=some r):CallsOK (Wl wl) Tryd.prog 53 [AV.d (D.i a0)] [] (.d (D.b r)) []:=by
 refine ok Tryd.f53 (by kernel_rfl) (by kernel_rfl) ⟨rfl,?_⟩;unfold aspath_Number at h;revert h;refine cut_join (fun v1=>⟨X::X::AV.d (D.b v1)::dd 6 ([]),nn 9 ([])⟩) ?_ ?_
 ·intro k2 h;revert h;refine sel_if ?_ ?_<;>intro h
  ·exact join_end wk h
  ·exact join_end wk h
 ·rintro v1 h;cases h;exact ⟨rfl,rfl⟩
theorem aspath_Valid_ok {wl:Prop} {a0:List Segment} {r:Bool} (h:aspath_Valid a0=some r):CallsOK (Wl wl) Tryd.prog 51 [AV.d (D.l 2 Segment.toD a0)] [] (.d (D.b r)) []:=by
 refine ok Tryd.f51 (by kernel_rfl) (by kernel_rfl) ⟨rfl,?_⟩;unfold aspath_Valid at h;refine ⟨a0.length,List.length_map _,?_⟩;revert h;refine cut_join (fun v1=>⟨X::X::X::AV.d (D.i v1)::dd 71 ([]),nn 75 ([])⟩) ?_ ?_
 ·intro k2 h;revert h;refine loop_for 8 2 Segment.toD rfl (fun i3 v4=>⟨AV.d (D.l 2 Segment.toD a0)::X::X::AV.d (D.i v4)::dd 4 (AV.d (D.l 2 Segment.toD a0)::AV.d (D.i (a0.length:Int))::AV.d (D.i (i3:Int))::dd 64 ([])),nn 75 ([])⟩) ?_ ?_ ?_
  ·exact wk
  ·rintro v4 K5 h;(conv=>whnf);refine .go ?_;(conv=>whnf);refine sel_f lt_f ?_;exact join_end wk h
  ·rintro next6 i3 x7 v4 K5 hii3 hxi3 hwi3 h hK8;(conv=>whnf);refine .go ?_;(conv=>whnf);refine sel_t (lt_t hii3) ?_;revert h;refine cut_join (fun _=>⟨AV.d (D.l 2 Segment.toD a0)::X::X::AV.d (D.i (i64w (v4 + (x7.ASNs.length:Int))))::dd 4 (AV.d (D.l 2 Segment.toD a0)::AV.d (D.i (a0.length:Int))::AV.d (D.i (i3:Int))::dd 64 ([])),nn 75 ([])⟩) ?_ ?_
   ·intro k9 h;refine ⟨idx_b (f:=Segment.toD) hii3,Segment.toD x7,hxi3,rfl,?_⟩;revert h;refine cut_join (fun v10=>⟨AV.d (D.l 2 Segment.toD a0)::X::X::AV.d (D.i v4)::X::AV.ref 5 0::X::X::AV.d (D.l 2 Segment.toD a0)::AV.d (D.i (a0.length:Int))::AV.d (D.i (i3:Int))::dd 25 (AV.d (D.b v10)::dd 38 ([])),nn 5 (some (OB.box (Segment.av x7))::nn 69 ([]))⟩) ?_ ?_
    ·intro k11 h;refine ⟨x7.ASNs.length,List.length_map _,?_⟩;revert h;refine sel_if ?_ ?_<;>intro h
     ·exact join_end wk h
     ·revert h;refine sel_if ?_ ?_<;>intro h
      ·revert h;refine sel_if ?_ ?_<;>intro h
       ·refine ⟨_,rfl,?_⟩;obtain ⟨v12,g13,h⟩:=bind_inv h;refine ⟨geti_b (f:=Segment.toD) g13,Segment.toD v12,geti_d (f:=Segment.toD) g13,rfl,?_⟩;exact join_end wk h
       ·exact join_end wk h
      ·exact join_end wk h
    ·rintro v10 h;(conv=>whnf);refine .go ?_;revert h;refine sel_if ?_ ?_<;>intro h
     ·cases h;exact ⟨rfl,rfl⟩
     ·refine ⟨x7.ASNs.length,List.length_map _,?_⟩;revert h;refine cut_join (fun _=>⟨AV.d (D.l 2 Segment.toD a0)::X::X::AV.d (D.i v4)::X::AV.ref 5 0::X::X::AV.d (D.l 2 Segment.toD a0)::AV.d (D.i (a0.length:Int))::AV.d (D.i (i3:Int))::dd 64 ([]),nn 5 (some (OB.box (Segment.av x7))::nn 69 ([]))⟩) ?_ ?_
      ·intro k14 h;revert h;refine loop_for 38 1 D.i rfl (fun i15 _=>⟨AV.d (D.l 2 Segment.toD a0)::X::X::AV.d (D.i v4)::X::AV.ref 5 0::X::X::AV.d (D.l 2 Segment.toD a0)::AV.d (D.i (a0.length:Int))::AV.d (D.i (i3:Int))::dd 27 (AV.d (D.l 1 D.i x7.ASNs)::AV.d (D.i (x7.ASNs.length:Int))::AV.d (D.i (i15:Int))::dd 34 ([])),nn 5 (some (OB.box (Segment.av x7))::nn 69 ([]))⟩) ?_ ?_ ?_
       ·exact wk
       ·rintro _ K16 h;(conv=>whnf);refine .go ?_;(conv=>whnf);refine sel_f lt_f ?_;exact join_end wk h
       ·rintro next17 i15 x18 _ K16 hii15 hxi15 hwi15 h hK19;(conv=>whnf);refine .go ?_;(conv=>whnf);refine sel_t (lt_t hii15) ?_;(conv=>whnf);refine .go ?_;refine ⟨idx_b (f:=D.i) hii15,D.i x18,hxi15,rfl,?_⟩;revert h;refine cut_join (fun v20=>⟨AV.d (D.l 2 Segment.toD a0)::X::X::AV.d (D.i v4)::X::AV.ref 5 0::X::X::AV.d (D.l 2 Segment.toD a0)::AV.d (D.i (a0.length:Int))::AV.d (D.i (i3:Int))::dd 27 (AV.d (D.l 1 D.i x7.ASNs)::AV.d (D.i (x7.ASNs.length:Int))::AV.d (D.i (i15:Int))::dd 24 (AV.d (D.b v20)::dd 9 ([]))),nn 5 (some (OB.box (Segment.av x7))::nn 69 ([]))⟩) ?_ ?_
        ·intro k21 h;obtain ⟨v22,g23,h⟩:=bind_inv h;refine ⟨_,_,some [],aspath_Number_ok g23,?_⟩;revert h;refine sel_if ?_ ?_<;>intro h
         ·exact join_end wk h
         ·revert h;refine sel_if ?_ ?_<;>intro h
          ·revert h;refine sel_if ?_ ?_<;>intro h
           ·refine ⟨_,rfl,?_⟩;obtain ⟨v24,g25,h⟩:=bind_inv h;refine ⟨geti_b (f:=D.i) g25,D.i v24,geti_d (f:=D.i) g25,rfl,?_⟩;exact join_end wk h
           ·exact join_end wk h
          ·exact join_end wk h
        ·rintro v20 h;(conv=>whnf);refine .go ?_;revert h;refine sel_if ?_ ?_<;>intro h
         ·cases h;exact ⟨rfl,rfl⟩
         ·refine ⟨_,hwi15,?_⟩;exact hK19 _ _ wk h
      ·rintro _ h;refine ⟨x7.ASNs.length,List.length_map _,?_⟩;refine ⟨_,rfl,?_⟩;exact join_end wk h
   ·rintro _ h;refine ⟨_,hwi3,?_⟩;exact hK8 _ _ wk h
 ·rintro v1 h;cases h;exact ⟨rfl,rfl⟩
theorem attribute_numbers_ok {wl:Prop} {a0:List UInt8} {r:(List Int)} (h:attribute_numbers a0=some r):CallsOK (Wl wl) Tryd.prog 146 [AV.d (D.l 1 D.u8 a0)] [] (AV.own 0 (List.map D.i r).length) [.row 3 1 (List.map D.i r) .no]:=by
 refine ok Tryd.f146 (by kernel_rfl) (by kernel_rfl) ⟨rfl,?_⟩;unfold attribute_numbers at h;revert h;refine cut_join (fun v1=>⟨X::X::X::AV.own 3 (List.map D.i v1).length::dd 12 ([]),N::N::N::some (OB.row 3 1 (List.map D.i v1) .no)::nn 12 ([])⟩) ?_ ?_
 ·intro k2 h;revert h;refine loop_while (fun (v3,v4)=>⟨AV.d (D.l 1 D.u8 v3)::X::X::AV.own 3 (List.map D.i v4).length::dd 12 ([]),N::N::N::some (OB.row 3 1 (List.map D.i v4) .no)::nn 12 ([])⟩) ?_ ?_
  ·exact wk
  rintro next5 ⟨v3,v4⟩ K6 h hK7;refine ⟨v3.length,List.length_map _,?_⟩;(conv=>whnf);refine .go ?_;revert h;refine sel_if ?_ ?_<;>intro h
  ·(conv=>whnf);refine .go ?_;obtain ⟨v8,g9,h⟩:=bind_inv h;refine ⟨part_b (f:=D.u8) g9,_,part_z (f:=D.u8) g9,?_⟩;obtain ⟨v10,g11,h⟩:=bind_inv h;refine ⟨_,_,some [],attribute_get_ok g11,?_⟩;refine ⟨rfl,?_⟩;obtain ⟨v12,g13,h⟩:=bind_inv h;refine ⟨rfl,apnd_b (f:=D.i) (g:=D.i) g13,_,apnd_z (f:=D.i) g13,?_⟩;obtain ⟨v14,g15,h⟩:=bind_inv h;refine ⟨part_b0 (f:=D.u8) g15,_,part_z0 (f:=D.u8) g15,?_⟩;exact hK7 _ _ wk h
  ·exact join_end wk h
 ·rintro v1 h;(conv=>whnf);refine .inl ?_;(conv=>whnf);refine .inr ?_;cases h;exact ⟨rfl,rfl⟩
theorem slices_Compact_int_int_ok {wl:Prop} {a0:List Int} {r:(List Int)} (h:slices_Compact_int_int a0=some r):CallsOK (Wl wl) Tryd.prog 148 [AV.own 0 (List.map D.i a0).length] [.row 3 1 (List.map D.i a0) .no] (AV.own 1 (List.map D.i r).length) [.gone,.row 3 1 (List.map D.i r) .no]:=by
 refine ok Tryd.f148 (by kernel_rfl) (by kernel_rfl) ⟨rfl,?_⟩;unfold slices_Compact_int_int at h;refine ⟨a0.length,by first | exact List.length_map _ | rfl | (simp only [List.length_map];omega),?_⟩;(conv=>whnf);refine .go ?_;revert h;refine sel_if ?_ ?_<;>intro h
 ·(conv=>whnf);refine .inr ?_;cases h;exact ⟨rfl,rfl⟩
 ·revert h;refine cut_join (fun _=>⟨AV.own 0 (List.map D.i a0).length::dd 60 ([]),some (OB.row 3 1 (List.map D.i a0) .no)::nn 61 ([])⟩) ?_ ?_
  ·intro k1 h;revert h;refine loop_while (fun v2=>⟨AV.own 0 (List.map D.i a0).length::X::X::AV.d (D.i v2)::dd 57 ([]),some (OB.row 3 1 (List.map D.i a0) .no)::nn 61 ([])⟩) ?_ ?_
   ·exact wk
   rintro next3 v2 K4 h hK5;refine ⟨a0.length,by first | exact List.length_map _ | rfl | (simp only [List.length_map];omega),?_⟩;(conv=>whnf);refine .go ?_;revert h;refine sel_if ?_ ?_<;>intro h
   ·revert h;refine cut_join (fun _=>⟨AV.own 0 (List.map D.i a0).length::X::X::AV.d (D.i v2)::dd 57 ([]),some (OB.row 3 1 (List.map D.i a0) .no)::nn 61 ([])⟩) ?_ ?_
    ·intro k6 h;(conv=>whnf);refine .inl (dOB (by kernel_rfl) ?_);obtain ⟨v7,g8,h⟩:=bind_inv h;refine ⟨rfl,geti_b (f:=D.i) g8,?_⟩;refine ⟨rfl,D.i v7,(geti_d (f:=D.i) g8),?_⟩;refine ⟨_,rfl,?_⟩;obtain ⟨v9,g10,h⟩:=bind_inv h;refine ⟨rfl,geti_b (f:=D.i) g10,?_⟩;refine ⟨rfl,D.i v9,(geti_d (f:=D.i) g10),?_⟩;(conv=>whnf);refine cOB (by kernel_rfl) ?_;(conv=>whnf);refine .go ?_;revert h;refine sel_if ?_ ?_<;>intro h
     ·(conv=>whnf);refine .inr (.inl ?_);obtain ⟨_,g11,h⟩:=bind_inv h;have g56c:=chk_inv g11;refine ⟨view_b0 (f:=D.i) g11,rfl,(Int.toNat v2),(Int.toNat (a0.length:Int) - Int.toNat v2),rfl,(by rw [List.length_map]),?_⟩;revert h;refine cut_join (fun (v12,v13)=>⟨AV.own 0 (List.map D.i v13).length::X::X::AV.d (D.i v12)::dd 57 ([]),some (OB.row 3 1 (List.map D.i v13) .no)::nn 61 ([])⟩) ?_ ?_
      ·intro k14 h;revert h;refine loop_while (fun (v15,v16,v17)=>⟨AV.own 0 (List.map D.i v17).length::X::X::AV.d (D.i v15)::AV.osl 0 (Int.toNat v2) (Int.toNat (a0.length:Int) - Int.toNat v2) (List.map D.i v17).length::AV.d (D.i v16)::dd 55 ([]),some (OB.row 3 1 (List.map D.i v17) .no)::nn 61 ([])⟩) ?_ ?_
       ·exact wk
       rintro next18 ⟨v15,v16,v17⟩ K19 h hK20;refine ⟨(Int.toNat (a0.length:Int) - Int.toNat v2),rfl,?_⟩;(conv=>whnf);refine .go ?_;revert h;refine sel_if ?_ ?_<;>intro h
       ·(conv=>whnf);refine .go ?_;(conv=>whnf);refine .inl (dOB (by kernel_rfl) ?_);obtain ⟨v21,g22,h⟩:=bind_inv h;refine ⟨(by first | rfl | (simp only [List.length_map,List.length_set];omega) | (simp only [List.length_map,List.length_set,List.length_append,List.length_take,List.length_drop,List.length_replicate];omega)),view_i g22,_,rfl,?_⟩;refine ⟨rfl,D.i v21,(view_d (f:=D.i) g22),?_⟩;refine ⟨_,rfl,?_⟩;obtain ⟨v23,g24,h⟩:=bind_inv h;refine ⟨(by first | rfl | (simp only [List.length_map,List.length_set];omega) | (simp only [List.length_map,List.length_set,List.length_append,List.length_take,List.length_drop,List.length_replicate];omega)),view_i g24,_,rfl,?_⟩;refine ⟨rfl,D.i v23,(view_d (f:=D.i) g24),?_⟩;(conv=>whnf);refine cOB (by kernel_rfl) ?_;revert h;refine cut_join (fun (v25,v26)=>⟨AV.own 0 (List.map D.i v26).length::X::X::AV.d (D.i v25)::AV.osl 0 (Int.toNat v2) (Int.toNat (a0.length:Int) - Int.toNat v2) (List.map D.i v26).length::AV.d (D.i v16)::dd 55 ([]),some (OB.row 3 1 (List.map D.i v26) .no)::nn 61 ([])⟩) ?_ ?_
        ·intro k27 h;revert h;refine sel_if ?_ ?_<;>intro h
         ·obtain ⟨v28,g29,h⟩:=bind_inv h;refine ⟨(by first | rfl | (simp only [List.length_map,List.length_set];omega) | (simp only [List.length_map,List.length_set,List.length_append,List.length_take,List.length_drop,List.length_replicate];omega)),view_i g29,_,rfl,?_⟩;refine ⟨rfl,D.i v28,(view_d (f:=D.i) g29),?_⟩;obtain ⟨v30,g31,h⟩:=bind_inv h;refine ⟨rfl,geti_b (f:=D.i) g31,?_⟩;obtain ⟨v32,g33,h⟩:=bind_inv h;have g33l:=seti_len g33;refine ⟨rfl,rfl,D.i v30,(geti_d (f:=D.i) g31),?_⟩;refine ⟨_,seti_z (f:=D.i) g33,?_⟩;refine ⟨_,rfl,?_⟩;exact join_end wk h
         ·exact join_end wk h
        ·rintro ⟨v25,v26⟩ h;refine ⟨_,rfl,?_⟩;exact hK20 _ _ wk h
       ·exact join_end wk h
      ·rintro ⟨v12,v13⟩ h;(conv=>whnf);refine .inr (.inl ?_);obtain ⟨_,g34,h⟩:=bind_inv h;have g96c:=chk_inv g34;refine ⟨view_b0 (f:=D.i) g34,rfl,(Int.toNat v12),(Int.toNat (v13.length:Int) - Int.toNat v12),rfl,(by rw [List.length_map]),?_⟩;refine ⟨(by first | rfl | (simp only [List.length_map,List.length_set];omega) | (simp only [List.length_map,List.length_set,List.length_append,List.length_take,List.length_drop,List.length_replicate];omega)),D.i 0,rfl,List.map D.i (List.take (Int.toNat v12) v13 ++ List.replicate (Int.toNat (v13.length:Int) - Int.toNat v12) 0 ++ List.drop ((Int.toNat v12) + (Int.toNat (v13.length:Int) - Int.toNat v12)) v13),clear_z,?_⟩;(conv=>whnf);refine .inr (.inr ?_);obtain ⟨v35,g36,h⟩:=bind_inv h;refine ⟨move_b (f:=D.i) g36,(by first | rfl | (simp only [List.length_map];omega) | (simp only [List.length_map,List.length_set,List.length_append,List.length_take,List.length_drop,List.length_replicate];omega)),_,part_z (f:=D.i) g36,?_⟩;(conv=>whnf);refine .inl ?_;(conv=>whnf);refine .inr ?_;cases h;exact ⟨rfl,rfl⟩
     ·exact join_end wk h
    ·rintro _ h;refine ⟨_,rfl,?_⟩;exact hK5 _ _ wk h
   ·exact join_end wk h
  ·rintro _ h;(conv=>whnf);refine .inr ?_;cases h;exact ⟨rfl,rfl⟩
theorem addr_FromBytes_ok {wl:Prop} {a0:List UInt8} {r:Addr×Int} (h:addr_FromBytes a0=some r):CallsOK (Wl wl) Tryd.prog 149 [AV.d (D.l 1 D.u8 a0)] [] (.tup [.d (Addr.toD r.1),.d (D.i r.2)]) []:=by
 refine ok Tryd.f149 (by kernel_rfl) (by kernel_rfl) ⟨rfl,?_⟩;unfold addr_FromBytes at h;revert h;refine cut_join (fun v1=>⟨AV.d (D.l 1 D.u8 a0)::X::AV.ref 2 0::dd 11 (AV.d (D.b v1)::dd 28 ([])),N::N::some (OB.box Addr.zv)::nn 40 ([])⟩) ?_ ?_
 ·intro k2 h;refine ⟨a0.length,List.length_map _,?_⟩;revert h;refine sel_if ?_ ?_<;>intro h
  ·refine ⟨a0.length,List.length_map _,?_⟩;exact join_end wk h
  ·exact join_end wk h
 ·rintro v1 h;(conv=>whnf);refine .go ?_;revert h;refine sel_if ?_ ?_<;>intro h
  ·cases h;exact ⟨rfl,rfl⟩
  ·refine ⟨a0.length,List.length_map _,?_⟩;refine ⟨a0.length,List.length_map _,?_⟩;revert h;refine cut_join (fun v3=>⟨X::X::AV.ref 2 0::X::AV.ref 4 0::dd 38 ([]),N::N::some (OB.box Addr.zv)::N::some (OB.box (Addr.av v3))::nn 38 ([])⟩) ?_ ?_
   ·intro k4 h;revert h;refine loop_for 20 1 D.u8 rfl (fun i5 v6=>⟨X::X::AV.ref 2 0::X::AV.ref 4 0::dd 15 (AV.d (D.l 1 D.u8 a0)::AV.d (D.i (a0.length:Int))::AV.d (D.i (i5:Int))::dd 20 ([])),N::N::some (OB.box Addr.zv)::N::some (OB.box (Addr.av v6))::nn 38 ([])⟩) ?_ ?_ ?_
    ·exact wk
    ·rintro v6 K7 h;(conv=>whnf);refine .go ?_;(conv=>whnf);refine sel_f lt_f ?_;exact join_end wk h
    ·rintro next8 i5 x9 v6 K7 hii5 hxi5 hwi5 h hK10;(conv=>whnf);refine .go ?_;(conv=>whnf);refine sel_t (lt_t hii5) ?_;(conv=>whnf);refine .go ?_;refine ⟨idx_b (f:=D.u8) hii5,D.u8 x9,hxi5,rfl,?_⟩;refine ⟨by decide,_,u64_wrap _,?_⟩;refine ⟨by decide,_,u64_shr v6.Lo _,?_⟩;refine ⟨_,u64_wrap _,?_⟩;refine ⟨by decide,_,u64_wrap _,?_⟩;refine ⟨_,u64_wrap _,?_⟩;refine ⟨_,u64_wrap _,?_⟩;refine ⟨_,hwi5,?_⟩;exact hK10 _ _ wk h
   ·rintro v3 h;cases h;exact ⟨rfl,rfl⟩
end Go.AX.Q18
end
section
namespace Go.AX.Q18
open Go Go.AX Go.Proofs
set_option maxRecDepth 100000
set_option maxHeartbeats 4000000
set_option linter.unusedVariables false
theorem slices_Min_int_int_ok {wl:Prop} {a0:List Int} {r:Int} (h:slices_Min_int_int a0=some r):CallsOK (Wl wl) Tryd.prog 117 [AV.d (D.l 1 D.i a0)] [] (.d (D.i r)) []:=by
 refine ok Tryd.f117 (by kernel_rfl) (by kernel_rfl) ⟨rfl,?_⟩;unfold slices_Min_int_int at h;refine ⟨a0.length,List.length_map _,?_⟩;(conv=>whnf);refine .go ?_;revert h;refine sel_if ?_ ?_<;>intro h
 ·exact nomatch h
 ·obtain ⟨v1,g2,h⟩:=bind_inv h;refine ⟨geti_b (f:=D.i) g2,D.i v1,geti_d (f:=D.i) g2,rfl,?_⟩;revert h;refine cut_join (fun v3=>⟨X::X::X::AV.d (D.i v3)::dd 21 ([]),nn 25 ([])⟩) ?_ ?_
  ·intro k4 h;revert h;refine loop_while (fun (v5,v6)=>⟨AV.d (D.l 1 D.i a0)::X::X::AV.d (D.i v5)::AV.d (D.i v6)::dd 20 ([]),nn 25 ([])⟩) ?_ ?_
   ·exact wk
   rintro next7 ⟨v5,v6⟩ K8 h hK9;refine ⟨a0.length,List.length_map _,?_⟩;(conv=>whnf);refine .go ?_;revert h;refine sel_if ?_ ?_<;>intro h
   ·(conv=>whnf);refine .go ?_;obtain ⟨v10,g11,h⟩:=bind_inv h;refine ⟨geti_b (f:=D.i) g11,D.i v10,geti_d (f:=D.i) g11,rfl,?_⟩;refine ⟨_,rfl,?_⟩;refine ⟨_,rfl,?_⟩;exact hK9 _ _ wk h
   ·exact join_end wk h
  ·rintro v3 h;cases h;exact ⟨rfl,rfl⟩
theorem slices_Max_int_int_ok {wl:Prop} {a0:List Int} {r:Int} (h:slices_Max_int_int a0=some r):CallsOK (Wl wl) Tryd.prog 118 [AV.d (D.l 1 D.i a0)] [] (.d (D.i r)) []:=by
 refine ok Tryd.f118 (by kernel_rfl) (by kernel_rfl) ⟨rfl,?_⟩;unfold slices_Max_int_int at h;refine ⟨a0.length,List.length_map _,?_⟩;(conv=>whnf);refine .go ?_;revert h;refine sel_if ?_ ?_<;>intro h
 ·exact nomatch h
 ·obtain ⟨v1,g2,h⟩:=bind_inv h;refine ⟨geti_b (f:=D.i) g2,D.i v1,geti_d (f:=D.i) g2,rfl,?_⟩;revert h;refine cut_join (fun v3=>⟨X::X::X::AV.d (D.i v3)::dd 21 ([]),nn 25 ([])⟩) ?_ ?_
  ·intro k4 h;revert h;refine loop_while (fun (v5,v6)=>⟨AV.d (D.l 1 D.i a0)::X::X::AV.d (D.i v5)::AV.d (D.i v6)::dd 20 ([]),nn 25 ([])⟩) ?_ ?_
   ·exact wk
   rintro next7 ⟨v5,v6⟩ K8 h hK9;refine ⟨a0.length,List.length_map _,?_⟩;(conv=>whnf);refine .go ?_;revert h;refine sel_if ?_ ?_<;>intro h
   ·(conv=>whnf);refine .go ?_;obtain ⟨v10,g11,h⟩:=bind_inv h;refine ⟨geti_b (f:=D.i) g11,D.i v10,geti_d (f:=D.i) g11,rfl,?_⟩;refine ⟨_,rfl,?_⟩;refine ⟨_,rfl,?_⟩;exact hK9 _ _ wk h
   ·exact join_end wk h
  ·rintro v3 h;cases h;exact ⟨rfl,rfl⟩
theorem community_within_ok {wl:Prop} {a0:Int} {a1:List Int} {r:Bool} (h:community_within a0 a1=some r):CallsOK (Wl wl) Tryd.prog 110 [AV.d (D.i a0),AV.d (D.l 1 D.i a1)] [] (.d (D.b r)) []:=by
 refine ok Tryd.f110 (by kernel_rfl) (by kernel_rfl) ⟨rfl,?_⟩;unfold community_within at h;revert h;refine cut_join (fun v1=>⟨dd 4 (AV.d (D.b v1)::dd 9 ([])),nn 14 ([])⟩) ?_ ?_
 ·intro k2 h;obtain ⟨v3,g4,h⟩:=bind_inv h;refine ⟨_,_,some [],slices_Min_int_int_ok g4,?_⟩;revert h;refine sel_if ?_ ?_<;>intro h
  ·obtain ⟨v5,g6,h⟩:=bind_inv h;refine ⟨_,_,some [],slices_Max_int_int_ok g6,?_⟩;exact join_end wk h
  ·exact join_end wk h
 ·rintro v1 h;cases h;exact ⟨rfl,rfl⟩
theorem community_fits_ok {wl:Prop} {a0:Community} {r:Bool} (h:community_fits a0=some r):CallsOK (Wl wl) Tryd.prog 84 [AV.d (Community.toD a0)] [] (.d (D.b r)) []:=by
 refine ok Tryd.f84 (by kernel_rfl) (by kernel_rfl) ⟨rfl,?_⟩;unfold community_fits at h;refine ⟨rfl,?_⟩;obtain ⟨v1,g2,h⟩:=bind_inv h;refine ⟨_,_,none,community_within_ok g2,?_⟩;cases h;exact ⟨rfl,rfl⟩
theorem cmp_isNaN_int_ok {wl:Prop} {a0:Int} {r:Bool} (h:cmp_isNaN_int a0=some r):CallsOK (Wl wl) Tryd.prog 77 [AV.d (D.i a0)] [] (.d (D.b r)) []:=by
 refine ok Tryd.f77 (by kernel_rfl) (by kernel_rfl) ⟨rfl,?_⟩;unfold cmp_isNaN_int at h;cases h;exact ⟨rfl,rfl⟩
theorem cmp_Compare_int_ok {wl:Prop} {a0:Int} {a1:Int} {r:Int} (h:cmp_Compare_int a0 a1=some r):CallsOK (Wl wl) Tryd.prog 41 [AV.d (D.i a0),AV.d (D.i a1)] [] (.d (D.i r)) []:=by
 refine ok Tryd.f41 (by kernel_rfl) (by kernel_rfl) ⟨rfl,?_⟩;unfold cmp_Compare_int at h;obtain ⟨v1,g2,h⟩:=bind_inv h;refine ⟨_,_,some [],cmp_isNaN_int_ok g2,?_⟩;obtain ⟨v3,g4,h⟩:=bind_inv h;refine ⟨_,_,some [],cmp_isNaN_int_ok g4,?_⟩;(conv=>whnf);refine .go ?_;revert h;refine sel_if ?_ ?_<;>intro h
 ·(conv=>whnf);refine .go ?_;revert h;refine sel_if ?_ ?_<;>intro h
  ·cases h;exact ⟨rfl,rfl⟩
  ·cases h;exact ⟨rfl,rfl⟩
 ·(conv=>whnf);refine .go ?_;revert h;refine sel_if ?_ ?_<;>intro h
  ·cases h;exact ⟨rfl,rfl⟩
  ·(conv=>whnf);refine .go ?_;revert h;refine sel_if ?_ ?_<;>intro h
   ·cases h;exact ⟨rfl,rfl⟩
   ·(conv=>whnf);refine .go ?_;revert h;refine sel_if ?_ ?_<;>intro h
    ·cases h;exact ⟨rfl,rfl⟩
    ·cases h;exact ⟨rfl,rfl⟩
theorem cmp_Or_int_ok {wl:Prop} {a0:List Int} {r:Int} (h:cmp_Or_int a0=some r):CallsOK (Wl wl) Tryd.prog 111 [AV.d (D.l 1 D.i a0)] [] (.d (D.i r)) []:=by
 refine ok Tryd.f111 (by kernel_rfl) (by kernel_rfl) ⟨rfl,?_⟩;unfold cmp_Or_int at h;refine ⟨a0.length,List.length_map _,?_⟩;revert h;refine cut_join (fun _=>⟨X::X::X::AV.d (D.i 0)::dd 14 ([]),nn 18 ([])⟩) ?_ ?_
 ·intro k1 h;revert h;refine loop_for 6 1 D.i rfl (fun i2 _=>⟨X::X::X::AV.d (D.i 0)::X::X::AV.d (D.l 1 D.i a0)::AV.d (D.i (a0.length:Int))::AV.d (D.i (i2:Int))::dd 9 ([]),nn 18 ([])⟩) ?_ ?_ ?_
  ·exact wk
  ·rintro _ K3 h;(conv=>whnf);refine .go ?_;(conv=>whnf);refine sel_f lt_f ?_;exact join_end wk h
  ·rintro next4 i2 x5 _ K3 hii2 hxi2 hwi2 h hK6;(conv=>whnf);refine .go ?_;(conv=>whnf);refine sel_t (lt_t hii2) ?_;(conv=>whnf);refine .go ?_;refine ⟨idx_b (f:=D.i) hii2,D.i x5,hxi2,rfl,?_⟩;(conv=>whnf);refine .go ?_;revert h;refine sel_if ?_ ?_<;>intro h
   ·cases h;exact ⟨rfl,rfl⟩
   ·refine ⟨_,hwi2,?_⟩;exact hK6 _ _ wk h
 ·rintro _ h;cases h;exact ⟨rfl,rfl⟩
theorem community_compare_ok {wl:Prop} {a0:Community} {a1:Community} {r:Int} (h:community_compare a0 a1=some r):CallsOK (Wl wl) Tryd.prog 85 [AV.d (Community.toD a0),AV.d (Community.toD a1)] [] (.d (D.i r)) []:=by
 refine ok Tryd.f85 (by kernel_rfl) (by kernel_rfl) ⟨rfl,?_⟩;unfold community_compare at h;(conv=>whnf);refine .inl (dOB (by kernel_rfl) ?_);obtain ⟨v1,g2,h⟩:=bind_inv h;refine ⟨_,_,cmp_Compare_int_ok g2,.inl rfl,?_⟩;obtain ⟨v3,g4,h⟩:=bind_inv h;refine ⟨_,_,cmp_Compare_int_ok g4,.inl rfl,?_⟩;refine ⟨rfl,?_⟩;obtain ⟨v5,g6,h⟩:=bind_inv h;refine ⟨_,_,cmp_Or_int_ok g6,.inl rfl,?_⟩;(conv=>whnf);refine cOB (by kernel_rfl) ?_;cases h;exact ⟨rfl,rfl⟩
theorem community_ascends_api_Community__community_fits__community_compare_ok {wl:Prop} {a0:List Community} {r:Bool} (h:community_ascends_api_Community__community_fits__community_compare a0=some r):CallsOK (Wl wl) Tryd.prog 83 [AV.d (D.l 2 Community.toD a0),AV.fn 84 [],AV.fn 85 []] [] (.d (D.b r)) []:=by
 refine ok Tryd.f83 (by kernel_rfl) (by kernel_rfl) ⟨rfl,?_⟩;unfold community_ascends_api_Community__community_fits__community_compare at h;refine ⟨a0.length,List.length_map _,?_⟩;revert h;refine cut_join (fun _=>⟨AV.d (D.l 2 Community.toD a0)::dd 38 ([]),nn 39 ([])⟩) ?_ ?_
 ·intro k1 h;revert h;refine loop_for 9 2 Community.toD rfl (fun i2 _=>⟨AV.d (D.l 2 Community.toD a0)::AV.fn 84 []::AV.fn 85 []::dd 6 (AV.d (D.l 2 Community.toD a0)::AV.d (D.i (a0.length:Int))::AV.d (D.i (i2:Int))::dd 27 ([])),nn 39 ([])⟩) ?_ ?_ ?_
  ·exact wk
  ·rintro _ K3 h;(conv=>whnf);refine .go ?_;(conv=>whnf);refine sel_f lt_f ?_;exact join_end wk h
  ·rintro next4 i2 x5 _ K3 hii2 hxi2 hwi2 h hK6;(conv=>whnf);refine .go ?_;(conv=>whnf);refine sel_t (lt_t hii2) ?_;(conv=>whnf);refine .go ?_;refine ⟨idx_b (f:=Community.toD) hii2,Community.toD x5,hxi2,rfl,?_⟩;revert h;refine cut_join (fun v7=>⟨AV.d (D.l 2 Community.toD a0)::AV.fn 84 []::AV.fn 85 []::dd 6 (AV.d (D.l 2 Community.toD a0)::AV.d (D.i (a0.length:Int))::AV.d (D.i (i2:Int))::dd 22 (AV.d (D.b v7)::dd 4 ([]))),nn 39 ([])⟩) ?_ ?_
   ·intro k8 h;(conv=>whnf);refine .inl (dOB (by kernel_rfl) ?_);obtain ⟨v9,g10,h⟩:=bind_inv h;refine ⟨_,_,community_fits_ok g10,.inl rfl,?_⟩;revert h;refine sel_if ?_ ?_<;>intro h
    ·(conv=>whnf);refine cOB (by kernel_rfl) ?_;exact join_end wk h
    ·revert h;refine sel_if ?_ ?_<;>intro h
     ·refine ⟨_,rfl,?_⟩;obtain ⟨v11,g12,h⟩:=bind_inv h;refine ⟨geti_b (f:=Community.toD) g12,Community.toD v11,geti_d (f:=Community.toD) g12,rfl,?_⟩;obtain ⟨v13,g14,h⟩:=bind_inv h;refine ⟨_,_,community_compare_ok g14,.inl rfl,?_⟩;(conv=>whnf);refine cOB (by kernel_rfl) ?_;exact join_end wk h
     ·(conv=>whnf);refine cOB (by kernel_rfl) ?_;exact join_end wk h
   ·rintro v7 h;(conv=>whnf);refine .go ?_;revert h;refine sel_if ?_ ?_<;>intro h
    ·cases h;exact ⟨rfl,rfl⟩
    ·refine ⟨_,hwi2,?_⟩;exact hK6 _ _ wk h
 ·rintro _ h;refine ⟨a0.length,List.length_map _,?_⟩;cases h;exact ⟨rfl,rfl⟩
theorem community_Valid_ok {wl:Prop} {a0:List Community} {r:Bool} (h:community_Valid a0=some r):CallsOK (Wl wl) Tryd.prog 54 [AV.d (D.l 2 Community.toD a0)] [] (.d (D.b r)) []:=by
 refine ok Tryd.f54 (by kernel_rfl) (by kernel_rfl) ⟨rfl,?_⟩;unfold community_Valid at h;obtain ⟨v1,g2,h⟩:=bind_inv h;refine ⟨_,_,some [],community_ascends_api_Community__community_fits__community_compare_ok g2,?_⟩;cases h;exact ⟨rfl,rfl⟩
theorem slices_Compact_api_Community_api_Community_ok {wl:Prop} {a0:List Community} {r:(List Community)} (h:slices_Compact_api_Community_api_Community a0=some r):CallsOK (Wl wl) Tryd.prog 156 [AV.own 0 (List.map Community.toD a0).length] [.row 106 2 (List.map Community.toD a0) .no] (AV.own 1 (List.map Community.toD r).length) [.gone,.row 106 2 (List.map Community.toD r) .no]:=by
 refine ok Tryd.f156 (by kernel_rfl) (by kernel_rfl) ⟨rfl,?_⟩;unfold slices_Compact_api_Community_api_Community at h;refine ⟨a0.length,by first | exact List.length_map _ | rfl | (simp only [List.length_map];omega),?_⟩;(conv=>whnf);refine .go ?_;revert h;refine sel_if ?_ ?_<;>intro h
 ·(conv=>whnf);refine .inr ?_;cases h;exact ⟨rfl,rfl⟩
 ·revert h;refine cut_join (fun _=>⟨AV.own 0 (List.map Community.toD a0).length::dd 60 ([]),some (OB.row 106 2 (List.map Community.toD a0) .no)::nn 61 ([])⟩) ?_ ?_
  ·intro k1 h;revert h;refine loop_while (fun v2=>⟨AV.own 0 (List.map Community.toD a0).length::X::X::AV.d (D.i v2)::dd 57 ([]),some (OB.row 106 2 (List.map Community.toD a0) .no)::nn 61 ([])⟩) ?_ ?_
   ·exact wk
   rintro next3 v2 K4 h hK5;refine ⟨a0.length,by first | exact List.length_map _ | rfl | (simp only [List.length_map];omega),?_⟩;(conv=>whnf);refine .go ?_;revert h;refine sel_if ?_ ?_<;>intro h
   ·revert h;refine cut_join (fun _=>⟨AV.own 0 (List.map Community.toD a0).length::X::X::AV.d (D.i v2)::dd 57 ([]),some (OB.row 106 2 (List.map Community.toD a0) .no)::nn 61 ([])⟩) ?_ ?_
    ·intro k6 h;(conv=>whnf);refine .inl (dOB (by kernel_rfl) ?_);obtain ⟨v7,g8,h⟩:=bind_inv h;refine ⟨rfl,geti_b (f:=Community.toD) g8,?_⟩;refine ⟨rfl,Community.toD v7,(geti_d (f:=Community.toD) g8),?_⟩;refine ⟨_,rfl,?_⟩;obtain ⟨v9,g10,h⟩:=bind_inv h;refine ⟨rfl,geti_b (f:=Community.toD) g10,?_⟩;refine ⟨rfl,Community.toD v9,(geti_d (f:=Community.toD) g10),?_⟩;(conv=>whnf);refine cOB (by kernel_rfl) ?_;(conv=>whnf);refine .go ?_;revert h;refine sel_if ?_ ?_<;>intro h
     ·(conv=>whnf);refine .inr (.inl ?_);obtain ⟨_,g11,h⟩:=bind_inv h;have g56c:=chk_inv g11;refine ⟨view_b0 (f:=Community.toD) g11,rfl,(Int.toNat v2),(Int.toNat (a0.length:Int) - Int.toNat v2),rfl,(by rw [List.length_map]),?_⟩;revert h;refine cut_join (fun (v12,v13)=>⟨AV.own 0 (List.map Community.toD v13).length::X::X::AV.d (D.i v12)::dd 57 ([]),some (OB.row 106 2 (List.map Community.toD v13) .no)::nn 61 ([])⟩) ?_ ?_
      ·intro k14 h;revert h;refine loop_while (fun (v15,v16,v17)=>⟨AV.own 0 (List.map Community.toD v17).length::X::X::AV.d (D.i v15)::AV.osl 0 (Int.toNat v2) (Int.toNat (a0.length:Int) - Int.toNat v2) (List.map Community.toD v17).length::AV.d (D.i v16)::dd 55 ([]),some (OB.row 106 2 (List.map Community.toD v17) .no)::nn 61 ([])⟩) ?_ ?_
       ·exact wk
       rintro next18 ⟨v15,v16,v17⟩ K19 h hK20;refine ⟨(Int.toNat (a0.length:Int) - Int.toNat v2),rfl,?_⟩;(conv=>whnf);refine .go ?_;revert h;refine sel_if ?_ ?_<;>intro h
       ·(conv=>whnf);refine .go ?_;(conv=>whnf);refine .inl (dOB (by kernel_rfl) ?_);obtain ⟨v21,g22,h⟩:=bind_inv h;refine ⟨(by first | rfl | (simp only [List.length_map,List.length_set];omega) | (simp only [List.length_map,List.length_set,List.length_append,List.length_take,List.length_drop,List.length_replicate];omega)),view_i g22,_,rfl,?_⟩;refine ⟨rfl,Community.toD v21,(view_d (f:=Community.toD) g22),?_⟩;refine ⟨_,rfl,?_⟩;obtain ⟨v23,g24,h⟩:=bind_inv h;refine ⟨(by first | rfl | (simp only [List.length_map,List.length_set];omega) | (simp only [List.length_map,List.length_set,List.length_append,List.length_take,List.length_drop,List.length_replicate];omega)),view_i g24,_,rfl,?_⟩;refine ⟨rfl,Community.toD v23,(view_d (f:=Community.toD) g24),?_⟩;(conv=>whnf);refine cOB (by kernel_rfl) ?_;revert h;refine cut_join (fun (v25,v26)=>⟨AV.own 0 (List.map Community.toD v26).length::X::X::AV.d (D.i v25)::AV.osl 0 (Int.toNat v2) (Int.toNat (a0.length:Int) - Int.toNat v2) (List.map Community.toD v26).length::AV.d (D.i v16)::dd 55 ([]),some (OB.row 106 2 (List.map Community.toD v26) .no)::nn 61 ([])⟩) ?_ ?_
        ·intro k27 h;revert h;refine sel_if ?_ ?_<;>intro h
         ·obtain ⟨v28,g29,h⟩:=bind_inv h;refine ⟨(by first | rfl | (simp only [List.length_map,List.length_set];omega) | (simp only [List.length_map,List.length_set,List.length_append,List.length_take,List.length_drop,List.length_replicate];omega)),view_i g29,_,rfl,?_⟩;refine ⟨rfl,Community.toD v28,(view_d (f:=Community.toD) g29),?_⟩;obtain ⟨v30,g31,h⟩:=bind_inv h;refine ⟨rfl,geti_b (f:=Community.toD) g31,?_⟩;obtain ⟨v32,g33,h⟩:=bind_inv h;have g33l:=seti_len g33;refine ⟨rfl,rfl,Community.toD v30,(geti_d (f:=Community.toD) g31),?_⟩;refine ⟨_,seti_z (f:=Community.toD) g33,?_⟩;refine ⟨_,rfl,?_⟩;exact join_end wk h
         ·exact join_end wk h
        ·rintro ⟨v25,v26⟩ h;refine ⟨_,rfl,?_⟩;exact hK20 _ _ wk h
       ·exact join_end wk h
      ·rintro ⟨v12,v13⟩ h;(conv=>whnf);refine .inr (.inl ?_);obtain ⟨_,g34,h⟩:=bind_inv h;have g96c:=chk_inv g34;refine ⟨view_b0 (f:=Community.toD) g34,rfl,(Int.toNat v12),(Int.toNat (v13.length:Int) - Int.toNat v12),rfl,(by rw [List.length_map]),?_⟩;refine ⟨(by first | rfl | (simp only [List.length_map,List.length_set];omega) | (simp only [List.length_map,List.length_set,List.length_append,List.length_take,List.length_drop,List.length_replicate];omega)),Community.toD (⟨0,0⟩:Community),rfl,List.map Community.toD (List.take (Int.toNat v12) v13 ++ List.replicate (Int.toNat (v13.length:Int) - Int.toNat v12) (⟨0,0⟩:Community) ++ List.drop ((Int.toNat v12) + (Int.toNat (v13.length:Int) - Int.toNat v12)) v13),clear_z,?_⟩;(conv=>whnf);refine .inr (.inr ?_);obtain ⟨v35,g36,h⟩:=bind_inv h;refine ⟨move_b (f:=Community.toD) g36,(by first | rfl | (simp only [List.length_map];omega) | (simp only [List.length_map,List.length_set,List.length_append,List.length_take,List.length_drop,List.length_replicate];omega)),_,part_z (f:=Community.toD) g36,?_⟩;(conv=>whnf);refine .inl ?_;(conv=>whnf);refine .inr ?_;cases h;exact ⟨rfl,rfl⟩
     ·exact join_end wk h
    ·rintro _ h;refine ⟨_,rfl,?_⟩;exact hK5 _ _ wk h
   ·exact join_end wk h
  ·rintro _ h;(conv=>whnf);refine .inr ?_;cases h;exact ⟨rfl,rfl⟩
theorem attribute_readCommunities_1_ok {wl:Prop} {a0:Community} {a1:Community} {r:Int} (h:attribute_readCommunities_1 a0 a1=some r):CallsOK (Wl wl) Tryd.prog 151 [AV.d (Community.toD a0),AV.d (Community.toD a1)] [] (.d (D.i r)) []:=by
 refine ok Tryd.f151 (by kernel_rfl) (by kernel_rfl) ⟨rfl,?_⟩;unfold attribute_readCommunities_1 at h;(conv=>whnf);refine .inl (dOB (by kernel_rfl) ?_);obtain ⟨v1,g2,h⟩:=bind_inv h;refine ⟨_,_,cmp_Compare_int_ok g2,.inl rfl,?_⟩;obtain ⟨v3,g4,h⟩:=bind_inv h;refine ⟨_,_,cmp_Compare_int_ok g4,.inl rfl,?_⟩;refine ⟨rfl,?_⟩;obtain ⟨v5,g6,h⟩:=bind_inv h;refine ⟨_,_,cmp_Or_int_ok g6,.inl rfl,?_⟩;(conv=>whnf);refine cOB (by kernel_rfl) ?_;cases h;exact ⟨rfl,rfl⟩
theorem community_fitsLarge_ok {wl:Prop} {a0:Large} {r:Bool} (h:community_fitsLarge a0=some r):CallsOK (Wl wl) Tryd.prog 87 [AV.d (Large.toD a0)] [] (.d (D.b r)) []:=by
 refine ok Tryd.f87 (by kernel_rfl) (by kernel_rfl) ⟨rfl,?_⟩;unfold community_fitsLarge at h;refine ⟨rfl,?_⟩;obtain ⟨v1,g2,h⟩:=bind_inv h;refine ⟨_,_,none,community_within_ok g2,?_⟩;cases h;exact ⟨rfl,rfl⟩
theorem community_compareLarge_ok {wl:Prop} {a0:Large} {a1:Large} {r:Int} (h:community_compareLarge a0 a1=some r):CallsOK (Wl wl) Tryd.prog 88 [AV.d (Large.toD a0),AV.d (Large.toD a1)] [] (.d (D.i r)) []:=by
 refine ok Tryd.f88 (by kernel_rfl) (by kernel_rfl) ⟨rfl,?_⟩;unfold community_compareLarge at h;(conv=>whnf);refine .inl (dOB (by kernel_rfl) ?_);obtain ⟨v1,g2,h⟩:=bind_inv h;refine ⟨_,_,cmp_Compare_int_ok g2,.inl rfl,?_⟩;obtain ⟨v3,g4,h⟩:=bind_inv h;refine ⟨_,_,cmp_Compare_int_ok g4,.inl rfl,?_⟩;obtain ⟨v5,g6,h⟩:=bind_inv h;refine ⟨_,_,cmp_Compare_int_ok g6,.inl rfl,?_⟩;refine ⟨rfl,?_⟩;obtain ⟨v7,g8,h⟩:=bind_inv h;refine ⟨_,_,cmp_Or_int_ok g8,.inl rfl,?_⟩;(conv=>whnf);refine cOB (by kernel_rfl) ?_;cases h;exact ⟨rfl,rfl⟩
theorem community_ascends_api_Large__community_fitsLarge__community_compareLarge_ok {wl:Prop} {a0:List Large} {r:Bool} (h:community_ascends_api_Large__community_fitsLarge__community_compareLarge a0=some r):CallsOK (Wl wl) Tryd.prog 86 [AV.d (D.l 3 Large.toD a0),AV.fn 87 [],AV.fn 88 []] [] (.d (D.b r)) []:=by
 refine ok Tryd.f86 (by kernel_rfl) (by kernel_rfl) ⟨rfl,?_⟩;unfold community_ascends_api_Large__community_fitsLarge__community_compareLarge at h;refine ⟨a0.length,List.length_map _,?_⟩;revert h;refine cut_join (fun _=>⟨AV.d (D.l 3 Large.toD a0)::dd 38 ([]),nn 39 ([])⟩) ?_ ?_
 ·intro k1 h;revert h;refine loop_for 9 3 Large.toD rfl (fun i2 _=>⟨AV.d (D.l 3 Large.toD a0)::AV.fn 87 []::AV.fn 88 []::dd 6 (AV.d (D.l 3 Large.toD a0)::AV.d (D.i (a0.length:Int))::AV.d (D.i (i2:Int))::dd 27 ([])),nn 39 ([])⟩) ?_ ?_ ?_
  ·exact wk
  ·rintro _ K3 h;(conv=>whnf);refine .go ?_;(conv=>whnf);refine sel_f lt_f ?_;exact join_end wk h
  ·rintro next4 i2 x5 _ K3 hii2 hxi2 hwi2 h hK6;(conv=>whnf);refine .go ?_;(conv=>whnf);refine sel_t (lt_t hii2) ?_;(conv=>whnf);refine .go ?_;refine ⟨idx_b (f:=Large.toD) hii2,Large.toD x5,hxi2,rfl,?_⟩;revert h;refine cut_join (fun v7=>⟨AV.d (D.l 3 Large.toD a0)::AV.fn 87 []::AV.fn 88 []::dd 6 (AV.d (D.l 3 Large.toD a0)::AV.d (D.i (a0.length:Int))::AV.d (D.i (i2:Int))::dd 22 (AV.d (D.b v7)::dd 4 ([]))),nn 39 ([])⟩) ?_ ?_
   ·intro k8 h;(conv=>whnf);refine .inl (dOB (by kernel_rfl) ?_);obtain ⟨v9,g10,h⟩:=bind_inv h;refine ⟨_,_,community_fitsLarge_ok g10,.inl rfl,?_⟩;revert h;refine sel_if ?_ ?_<;>intro h
    ·(conv=>whnf);refine cOB (by kernel_rfl) ?_;exact join_end wk h
    ·revert h;refine sel_if ?_ ?_<;>intro h
     ·refine ⟨_,rfl,?_⟩;obtain ⟨v11,g12,h⟩:=bind_inv h;refine ⟨geti_b (f:=Large.toD) g12,Large.toD v11,geti_d (f:=Large.toD) g12,rfl,?_⟩;obtain ⟨v13,g14,h⟩:=bind_inv h;refine ⟨_,_,community_compareLarge_ok g14,.inl rfl,?_⟩;(conv=>whnf);refine cOB (by kernel_rfl) ?_;exact join_end wk h
     ·(conv=>whnf);refine cOB (by kernel_rfl) ?_;exact join_end wk h
   ·rintro v7 h;(conv=>whnf);refine .go ?_;revert h;refine sel_if ?_ ?_<;>intro h
    ·cases h;exact ⟨rfl,rfl⟩
    ·refine ⟨_,hwi2,?_⟩;exact hK6 _ _ wk h
 ·rintro _ h;refine ⟨a0.length,List.length_map _,?_⟩;cases h;exact ⟨rfl,rfl⟩
theorem community_ValidLarge_ok {wl:Prop} {a0:List Large} {r:Bool} (h:community_ValidLarge a0=some r):CallsOK (Wl wl) Tryd.prog 55 [AV.d (D.l 3 Large.toD a0)] [] (.d (D.b r)) []:=by
 refine ok Tryd.f55 (by kernel_rfl) (by kernel_rfl) ⟨rfl,?_⟩;unfold community_ValidLarge at h;obtain ⟨v1,g2,h⟩:=bind_inv h;refine ⟨_,_,some [],community_ascends_api_Large__community_fitsLarge__community_compareLarge_ok g2,?_⟩;cases h;exact ⟨rfl,rfl⟩
theorem slices_Compact_api_Large_api_Large_ok {wl:Prop} {a0:List Large} {r:(List Large)} (h:slices_Compact_api_Large_api_Large a0=some r):CallsOK (Wl wl) Tryd.prog 158 [AV.own 0 (List.map Large.toD a0).length] [.row 108 3 (List.map Large.toD a0) .no] (AV.own 1 (List.map Large.toD r).length) [.gone,.row 108 3 (List.map Large.toD r) .no]:=by
 refine ok Tryd.f158 (by kernel_rfl) (by kernel_rfl) ⟨rfl,?_⟩;unfold slices_Compact_api_Large_api_Large at h;refine ⟨a0.length,by first | exact List.length_map _ | rfl | (simp only [List.length_map];omega),?_⟩;(conv=>whnf);refine .go ?_;revert h;refine sel_if ?_ ?_<;>intro h
 ·(conv=>whnf);refine .inr ?_;cases h;exact ⟨rfl,rfl⟩
 ·revert h;refine cut_join (fun _=>⟨AV.own 0 (List.map Large.toD a0).length::dd 60 ([]),some (OB.row 108 3 (List.map Large.toD a0) .no)::nn 61 ([])⟩) ?_ ?_
  ·intro k1 h;revert h;refine loop_while (fun v2=>⟨AV.own 0 (List.map Large.toD a0).length::X::X::AV.d (D.i v2)::dd 57 ([]),some (OB.row 108 3 (List.map Large.toD a0) .no)::nn 61 ([])⟩) ?_ ?_
   ·exact wk
   rintro next3 v2 K4 h hK5;refine ⟨a0.length,by first | exact List.length_map _ | rfl | (simp only [List.length_map];omega),?_⟩;(conv=>whnf);refine .go ?_;revert h;refine sel_if ?_ ?_<;>intro h
   ·revert h;refine cut_join (fun _=>⟨AV.own 0 (List.map Large.toD a0).length::X::X::AV.d (D.i v2)::dd 57 ([]),some (OB.row 108 3 (List.map Large.toD a0) .no)::nn 61 ([])⟩) ?_ ?_
    ·intro k6 h;(conv=>whnf);refine .inl (dOB (by kernel_rfl) ?_);obtain ⟨v7,g8,h⟩:=bind_inv h;refine ⟨rfl,geti_b (f:=Large.toD) g8,?_⟩;refine ⟨rfl,Large.toD v7,(geti_d (f:=Large.toD) g8),?_⟩;refine ⟨_,rfl,?_⟩;obtain ⟨v9,g10,h⟩:=bind_inv h;refine ⟨rfl,geti_b (f:=Large.toD) g10,?_⟩;refine ⟨rfl,Large.toD v9,(geti_d (f:=Large.toD) g10),?_⟩;(conv=>whnf);refine cOB (by kernel_rfl) ?_;(conv=>whnf);refine .go ?_;revert h;refine sel_if ?_ ?_<;>intro h
     ·(conv=>whnf);refine .inr (.inl ?_);obtain ⟨_,g11,h⟩:=bind_inv h;have g56c:=chk_inv g11;refine ⟨view_b0 (f:=Large.toD) g11,rfl,(Int.toNat v2),(Int.toNat (a0.length:Int) - Int.toNat v2),rfl,(by rw [List.length_map]),?_⟩;revert h;refine cut_join (fun (v12,v13)=>⟨AV.own 0 (List.map Large.toD v13).length::X::X::AV.d (D.i v12)::dd 57 ([]),some (OB.row 108 3 (List.map Large.toD v13) .no)::nn 61 ([])⟩) ?_ ?_
      ·intro k14 h;revert h;refine loop_while (fun (v15,v16,v17)=>⟨AV.own 0 (List.map Large.toD v17).length::X::X::AV.d (D.i v15)::AV.osl 0 (Int.toNat v2) (Int.toNat (a0.length:Int) - Int.toNat v2) (List.map Large.toD v17).length::AV.d (D.i v16)::dd 55 ([]),some (OB.row 108 3 (List.map Large.toD v17) .no)::nn 61 ([])⟩) ?_ ?_
       ·exact wk
       rintro next18 ⟨v15,v16,v17⟩ K19 h hK20;refine ⟨(Int.toNat (a0.length:Int) - Int.toNat v2),rfl,?_⟩;(conv=>whnf);refine .go ?_;revert h;refine sel_if ?_ ?_<;>intro h
       ·(conv=>whnf);refine .go ?_;(conv=>whnf);refine .inl (dOB (by kernel_rfl) ?_);obtain ⟨v21,g22,h⟩:=bind_inv h;refine ⟨(by first | rfl | (simp only [List.length_map,List.length_set];omega) | (simp only [List.length_map,List.length_set,List.length_append,List.length_take,List.length_drop,List.length_replicate];omega)),view_i g22,_,rfl,?_⟩;refine ⟨rfl,Large.toD v21,(view_d (f:=Large.toD) g22),?_⟩;refine ⟨_,rfl,?_⟩;obtain ⟨v23,g24,h⟩:=bind_inv h;refine ⟨(by first | rfl | (simp only [List.length_map,List.length_set];omega) | (simp only [List.length_map,List.length_set,List.length_append,List.length_take,List.length_drop,List.length_replicate];omega)),view_i g24,_,rfl,?_⟩;refine ⟨rfl,Large.toD v23,(view_d (f:=Large.toD) g24),?_⟩;(conv=>whnf);refine cOB (by kernel_rfl) ?_;revert h;refine cut_join (fun (v25,v26)=>⟨AV.own 0 (List.map Large.toD v26).length::X::X::AV.d (D.i v25)::AV.osl 0 (Int.toNat v2) (Int.toNat (a0.length:Int) - Int.toNat v2) (List.map Large.toD v26).length::AV.d (D.i v16)::dd 55 ([]),some (OB.row 108 3 (List.map Large.toD v26) .no)::nn 61 ([])⟩) ?_ ?_
        ·intro k27 h;revert h;refine sel_if ?_ ?_<;>intro h
         ·obtain ⟨v28,g29,h⟩:=bind_inv h;refine ⟨(by first | rfl | (simp only [List.length_map,List.length_set];omega) | (simp only [List.length_map,List.length_set,List.length_append,List.length_take,List.length_drop,List.length_replicate];omega)),view_i g29,_,rfl,?_⟩;refine ⟨rfl,Large.toD v28,(view_d (f:=Large.toD) g29),?_⟩;obtain ⟨v30,g31,h⟩:=bind_inv h;refine ⟨rfl,geti_b (f:=Large.toD) g31,?_⟩;obtain ⟨v32,g33,h⟩:=bind_inv h;have g33l:=seti_len g33;refine ⟨rfl,rfl,Large.toD v30,(geti_d (f:=Large.toD) g31),?_⟩;refine ⟨_,seti_z (f:=Large.toD) g33,?_⟩;refine ⟨_,rfl,?_⟩;exact join_end wk h
         ·exact join_end wk h
        ·rintro ⟨v25,v26⟩ h;refine ⟨_,rfl,?_⟩;exact hK20 _ _ wk h
       ·exact join_end wk h
      ·rintro ⟨v12,v13⟩ h;(conv=>whnf);refine .inr (.inl ?_);obtain ⟨_,g34,h⟩:=bind_inv h;have g96c:=chk_inv g34;refine ⟨view_b0 (f:=Large.toD) g34,rfl,(Int.toNat v12),(Int.toNat (v13.length:Int) - Int.toNat v12),rfl,(by rw [List.length_map]),?_⟩;refine ⟨(by first | rfl | (simp only [List.length_map,List.length_set];omega) | (simp only [List.length_map,List.length_set,List.length_append,List.length_take,List.length_drop,List.length_replicate];omega)),Large.toD (⟨0,0,0⟩:Large),rfl,List.map Large.toD (List.take (Int.toNat v12) v13 ++ List.replicate (Int.toNat (v13.length:Int) - Int.toNat v12) (⟨0,0,0⟩:Large) ++ List.drop ((Int.toNat v12) + (Int.toNat (v13.length:Int) - Int.toNat v12)) v13),clear_z,?_⟩;(conv=>whnf);refine .inr (.inr ?_);obtain ⟨v35,g36,h⟩:=bind_inv h;refine ⟨move_b (f:=Large.toD) g36,(by first | rfl | (simp only [List.length_map];omega) | (simp only [List.length_map,List.length_set,List.length_append,List.length_take,List.length_drop,List.length_replicate];omega)),_,part_z (f:=Large.toD) g36,?_⟩;(conv=>whnf);refine .inl ?_;(conv=>whnf);refine .inr ?_;cases h;exact ⟨rfl,rfl⟩
     ·exact join_end wk h
    ·rintro _ h;refine ⟨_,rfl,?_⟩;exact hK5 _ _ wk h
   ·exact join_end wk h
  ·rintro _ h;(conv=>whnf);refine .inr ?_;cases h;exact ⟨rfl,rfl⟩
theorem attribute_readLarge_1_ok {wl:Prop} {a0:Large} {a1:Large} {r:Int} (h:attribute_readLarge_1 a0 a1=some r):CallsOK (Wl wl) Tryd.prog 153 [AV.d (Large.toD a0),AV.d (Large.toD a1)] [] (.d (D.i r)) []:=by
 refine ok Tryd.f153 (by kernel_rfl) (by kernel_rfl) ⟨rfl,?_⟩;unfold attribute_readLarge_1 at h;(conv=>whnf);refine .inl (dOB (by kernel_rfl) ?_);obtain ⟨v1,g2,h⟩:=bind_inv h;refine ⟨_,_,cmp_Compare_int_ok g2,.inl rfl,?_⟩;obtain ⟨v3,g4,h⟩:=bind_inv h;refine ⟨_,_,cmp_Compare_int_ok g4,.inl rfl,?_⟩;obtain ⟨v5,g6,h⟩:=bind_inv h;refine ⟨_,_,cmp_Compare_int_ok g6,.inl rfl,?_⟩;refine ⟨rfl,?_⟩;obtain ⟨v7,g8,h⟩:=bind_inv h;refine ⟨_,_,cmp_Or_int_ok g8,.inl rfl,?_⟩;(conv=>whnf);refine cOB (by kernel_rfl) ?_;cases h;exact ⟨rfl,rfl⟩
end Go.AX.Q18
end
section
namespace Go.AX.Q18
open Go Go.AX Go.Proofs
set_option maxRecDepth 100000
set_option maxHeartbeats 4000000
set_option linter.unusedVariables false
end Go.AX.Q18
end
section
namespace Go.AX.Q18
open Go Go.AX Go.Proofs
set_option maxRecDepth 100000
set_option maxHeartbeats 4000000
set_option linter.unusedVariables false
theorem attribute_within_ok {wl:Prop} {a0:Int} {a1:Int} {a2:Int} {r:Bool} (h:attribute_within a0 a1 a2=some r):CallsOK (Wl wl) Tryd.prog 37 [AV.d (D.i a0),AV.d (D.i a1),AV.d (D.i a2)] [] (.d (D.b r)) []:=by
 refine ok Tryd.f37 (by kernel_rfl) (by kernel_rfl) ⟨rfl,?_⟩;unfold attribute_within at h;revert h;refine cut_join (fun v1=>⟨dd 6 (AV.d (D.b v1)::dd 8 ([])),nn 15 ([])⟩) ?_ ?_
 ·intro k2 h;revert h;refine sel_if ?_ ?_<;>intro h
  ·exact join_end wk h
  ·exact join_end wk h
 ·rintro v1 h;cases h;exact ⟨rfl,rfl⟩
theorem slices_Clone_byte_byte_ok {wl:Prop} {a0:List UInt8} {r:(List UInt8)} (h:slices_Clone_byte_byte a0=some r):CallsOK (Wl wl) Tryd.prog 38 [AV.d (D.l 1 D.u8 a0)] [] (.d (D.l 1 D.u8 r)) []:=by
 refine ok Tryd.f38 (by kernel_rfl) (by kernel_rfl) ⟨rfl,?_⟩;unfold slices_Clone_byte_byte at h;refine ⟨?_,fun hz=>?_⟩
 ·(conv=>whnf);refine .go ?_;obtain ⟨v1,g2,h⟩:=bind_inv h;refine ⟨rfl,apnd_b (f:=D.u8) (g:=D.u8) g2,_,apnd_z (f:=D.u8) g2,?_⟩;(conv=>whnf);refine .inl ?_;(conv=>whnf);refine .inl ?_;refine ⟨rfl,?_⟩;cases h;exact ⟨rfl,rfl⟩
 ·obtain rfl:a0=[]:=(by simpa using hz);replace h:=nil_conv h;(conv=>whnf);refine .go ?_;(conv=>whnf);refine .inl ?_;cases h;exact ⟨rfl,rfl⟩
theorem attribute_Read_2_ok {wl:Prop} {a0:Unknown} {a1:Unknown} {r:Int} (h:attribute_Read_2 a0 a1=some r):CallsOK (Wl wl) Tryd.prog 40 [AV.d (Unknown.toD a0),AV.d (Unknown.toD a1)] [] (.d (D.i r)) []:=by
 refine ok Tryd.f40 (by kernel_rfl) (by kernel_rfl) ⟨rfl,?_⟩;unfold attribute_Read_2 at h;obtain ⟨v1,g2,h⟩:=bind_inv h;refine ⟨_,_,some [],cmp_Compare_int_ok g2,?_⟩;cases h;exact ⟨rfl,rfl⟩
theorem slices_IndexFunc_api_Unknown_api_Unknown__attribute_Read_1_ok {wl:Prop} {a0:List Unknown} {r:Int} (h:slices_IndexFunc_api_Unknown_api_Unknown__attribute_Read_1 a0=some r):CallsOK (Wl wl) Tryd.prog 72 [AV.d (D.l 3 Unknown.toD a0),AV.fn 34 []] [] (.d (D.i r)) []:=by
 refine ok Tryd.f72 (by kernel_rfl) (by kernel_rfl) ⟨rfl,?_⟩;unfold slices_IndexFunc_api_Unknown_api_Unknown__attribute_Read_1 at h;refine ⟨a0.length,List.length_map _,?_⟩;revert h;refine cut_join (fun _=>⟨dd 19 ([]),nn 19 ([])⟩) ?_ ?_
 ·intro k1 h;revert h;refine loop_for 6 3 Unknown.toD rfl (fun i2 _=>⟨AV.d (D.l 3 Unknown.toD a0)::AV.fn 34 []::dd 4 (AV.d (D.l 3 Unknown.toD a0)::AV.d (D.i (a0.length:Int))::AV.d (D.i (i2:Int))::dd 10 ([])),nn 19 ([])⟩) ?_ ?_ ?_
  ·exact wk
  ·rintro _ K3 h;(conv=>whnf);refine .go ?_;(conv=>whnf);refine sel_f lt_f ?_;exact join_end wk h
  ·rintro next4 i2 x5 _ K3 hii2 hxi2 hwi2 h hK6;(conv=>whnf);refine .go ?_;(conv=>whnf);refine sel_t (lt_t hii2) ?_;(conv=>whnf);refine .go ?_;refine ⟨idx_b (f:=Unknown.toD) hii2,Unknown.toD x5,hxi2,rfl,?_⟩;obtain ⟨v7,g8,h⟩:=bind_inv h;refine ⟨_,_,some [],attribute_Read_1_ok g8,?_⟩;(conv=>whnf);refine .go ?_;revert h;refine sel_if ?_ ?_<;>intro h
   ·cases h;exact ⟨rfl,rfl⟩
   ·refine ⟨_,hwi2,?_⟩;exact hK6 _ _ wk h
 ·rintro _ h;cases h;exact ⟨rfl,rfl⟩
theorem slices_ContainsFunc_api_Unknown_api_Unknown__attribute_Read_1_ok {wl:Prop} {a0:List Unknown} {r:Bool} (h:slices_ContainsFunc_api_Unknown_api_Unknown__attribute_Read_1 a0=some r):CallsOK (Wl wl) Tryd.prog 33 [AV.d (D.l 3 Unknown.toD a0),AV.fn 34 []] [] (.d (D.b r)) []:=by
 refine ok Tryd.f33 (by kernel_rfl) (by kernel_rfl) ⟨rfl,?_⟩;unfold slices_ContainsFunc_api_Unknown_api_Unknown__attribute_Read_1 at h;obtain ⟨v1,g2,h⟩:=bind_inv h;refine ⟨_,_,some [],slices_IndexFunc_api_Unknown_api_Unknown__attribute_Read_1_ok g2,?_⟩;cases h;exact ⟨rfl,rfl⟩
end Go.AX.Q18
end
section
namespace Go.AX.Q18
open Go Go.AX Go.Proofs
set_option maxRecDepth 100000
set_option maxHeartbeats 4000000
set_option linter.unusedVariables false
theorem attribute_Read_ok {wl:Prop} {a0:List Unknown} {r:Attrs×Int} (h:attribute_Read a0=some r):CallsOK (Wl wl) Tryd.prog 12 [AV.d (D.l 3 Unknown.toD a0)] [] (.tup [.d (Attrs.toD r.1),.d (D.i r.2)]) []:=by
 refine okx 166 Tryd.f12 (by kernel_rfl) (by kernel_rfl) ⟨rfl,?_⟩;unfold attribute_Read at h;obtain ⟨v1,g2,h⟩:=bind_inv h;refine ⟨_,_,some [],attribute_firsts_ok g2,?_⟩;obtain ⟨v3,g4,h⟩:=bind_inv h;refine ⟨_,_,some [],slices_ContainsFunc_api_Unknown_api_Unknown__attribute_Read_1_ok g4,?_⟩;(conv=>whnf);refine .go ?_;revert h;refine sel_if ?_ ?_<;>intro h
 ·cases h;exact ⟨rfl,rfl⟩
 ·revert h;refine cut_join (fun (v5,v6,v7,v8,v9,v10,v11,v12,v13,v14,v15)=>⟨AV.d (D.l 3 Unknown.toD v1)::X::AV.ref 2 0::dd 12 (AV.tup [AV.agg [AV.d (D.i v5),AV.own 64 (List.map Segment.toD v13).length,AV.d (D.b v6),AV.d (D.u64 v7),AV.d (D.u64 v8),AV.d (D.i v9),AV.d (D.i v10),AV.d (D.i v11),AV.own 65 (List.map Community.toD v14).length,AV.own 67 (List.map Large.toD v15).length,AV.d (D.nil 3)],AV.d (D.b v12)]::dd 52 ([])),N::N::some (OB.box Attrs.zv)::nn 61 (some (OB.row 84 2 (List.map Segment.toD v13) .no)::some (OB.row 106 2 (List.map Community.toD v14) .no)::N::some (OB.row 108 3 (List.map Large.toD v15) .no)::nn 166 ([]))⟩) ?_ ?_
  ·intro k16 h;(conv=>whnf);refine inl Tryd.f36 68 (by kernel_rfl) (by kernel_rfl) ⟨rfl,?_⟩;revert h;refine cut_join (fun _=>⟨AV.d (D.l 3 Unknown.toD v1)::X::AV.ref 70 0::dd 6 (AV.d (D.agg [D.i (-1),D.nil 2,D.b false,D.u64 (0:UInt64),D.u64 (0:UInt64),D.i (-1),D.i (-1),D.i (-1),D.nil 2,D.nil 3,D.nil 3])::dd 29 ([])),N::N::some (OB.box Attrs.zv)::nn 67 (some (OB.box Attrs.zv)::nn 163 ([]))⟩) ?_ ?_
   ·intro k17 h;(conv=>whnf);refine inl Tryd.f73 107 (by kernel_rfl) (by kernel_rfl) ⟨rfl,?_⟩;exact join_end wk h
   ·rintro _ h;refine ⟨v1.length,List.length_map _,?_⟩;revert h;refine cut_join (fun (v18,v19,v20,v21,v22,v23,v24,v25,v26,v27)=>⟨X::X::AV.ref 70 0::X::AV.ref 72 0::dd 34 ([]),N::N::some (OB.box Attrs.zv)::nn 67 (some (OB.box Attrs.zv)::N::some (OB.box [AV.d (D.i v18),AV.own 106 (List.map Segment.toD v25).length,AV.d (D.b v19),AV.d (D.u64 v20),AV.d (D.u64 v21),AV.d (D.i v22),AV.d (D.i v23),AV.d (D.i v24),AV.own 105 (List.map Community.toD v26).length,AV.own 104 (List.map Large.toD v27).length,AV.d (D.nil 3)])::nn 31 (some (OB.row 108 3 (List.map Large.toD v27) .no)::some (OB.row 106 2 (List.map Community.toD v26) .no)::some (OB.row 84 2 (List.map Segment.toD v25) .no)::nn 127 ([])))⟩) ?_ ?_
    ·intro k28 h;revert h;refine loop_for 10 3 Unknown.toD rfl (fun i29 (v30,v31,v32,v33,v34,v35,v36,v37,v38,v39)=>⟨X::X::AV.ref 70 0::X::AV.ref 72 0::dd 5 (AV.d (D.l 3 Unknown.toD v1)::AV.d (D.i (v1.length:Int))::AV.d (D.i (i29:Int))::dd 26 ([])),N::N::some (OB.box Attrs.zv)::nn 67 (some (OB.box Attrs.zv)::N::some (OB.box [AV.d (D.i v30),AV.own 106 (List.map Segment.toD v37).length,AV.d (D.b v31),AV.d (D.u64 v32),AV.d (D.u64 v33),AV.d (D.i v34),AV.d (D.i v35),AV.d (D.i v36),AV.own 105 (List.map Community.toD v38).length,AV.own 104 (List.map Large.toD v39).length,AV.d (D.nil 3)])::nn 31 (some (OB.row 108 3 (List.map Large.toD v39) .no)::some (OB.row 106 2 (List.map Community.toD v38) .no)::some (OB.row 84 2 (List.map Segment.toD v37) .no)::nn 127 ([])))⟩) ?_ ?_ ?_
     ·exact wk
     ·rintro ⟨v30,v31,v32,v33,v34,v35,v36,v37,v38,v39⟩ K40 h;(conv=>whnf);refine .go ?_;(conv=>whnf);refine sel_f lt_f ?_;exact join_end wk h
     ·rintro next41 i29 x42 ⟨v30,v31,v32,v33,v34,v35,v36,v37,v38,v39⟩ K40 hii29 hxi29 hwi29 h hK43;(conv=>whnf);refine .go ?_;(conv=>whnf);refine sel_t (lt_t hii29) ?_;revert h;refine cut_join (fun (v44,v45,v46,v47,v48,v49,v50,v51,v52,v53)=>⟨X::X::AV.ref 70 0::X::AV.ref 72 0::dd 5 (AV.d (D.l 3 Unknown.toD v1)::AV.d (D.i (v1.length:Int))::AV.d (D.i (i29:Int))::dd 26 ([])),N::N::some (OB.box Attrs.zv)::nn 67 (some (OB.box Attrs.zv)::N::some (OB.box [AV.d (D.i v44),AV.own 106 (List.map Segment.toD v51).length,AV.d (D.b v45),AV.d (D.u64 v46),AV.d (D.u64 v47),AV.d (D.i v48),AV.d (D.i v49),AV.d (D.i v50),AV.own 105 (List.map Community.toD v52).length,AV.own 104 (List.map Large.toD v53).length,AV.d (D.nil 3)])::nn 31 (some (OB.row 108 3 (List.map Large.toD v53) .no)::some (OB.row 106 2 (List.map Community.toD v52) .no)::some (OB.row 84 2 (List.map Segment.toD v51) .no)::nn 127 ([])))⟩) ?_ ?_
      ·intro k54 h;refine ⟨idx_b (f:=Unknown.toD) hii29,Unknown.toD x42,hxi29,rfl,?_⟩;(conv=>whnf);by_cases g55:(x42.Type_ == 1)=true
       ·replace h:=ite_t g55 h;refine ⟨_,(gget_hit g55),_,rfl,_,rfl,?_⟩;revert h;refine cut_join (fun (v56,v57)=>⟨X::X::AV.ref 70 0::X::AV.ref 72 0::dd 5 (AV.d (D.l 3 Unknown.toD v1)::AV.d (D.i (v1.length:Int))::AV.d (D.i (i29:Int))::dd 22 (AV.d (D.b v56)::X::X::X::[])),N::N::some (OB.box Attrs.zv)::nn 67 (some (OB.box Attrs.zv)::N::some (OB.box [AV.d (D.i v57),AV.own 106 (List.map Segment.toD v37).length,AV.d (D.b v31),AV.d (D.u64 v32),AV.d (D.u64 v33),AV.d (D.i v34),AV.d (D.i v35),AV.d (D.i v36),AV.own 105 (List.map Community.toD v38).length,AV.own 104 (List.map Large.toD v39).length,AV.d (D.nil 3)])::nn 31 (some (OB.row 108 3 (List.map Large.toD v39) .no)::some (OB.row 106 2 (List.map Community.toD v38) .no)::some (OB.row 84 2 (List.map Segment.toD v37) .no)::nn 127 ([])))⟩) ?_ ?_
        ·intro k58 h;obtain ⟨v59,g60,h⟩:=bind_inv h;refine ⟨_,_,some [],attribute_right_ok g60,?_⟩;revert h;refine sel_if ?_ ?_<;>intro h
         ·exact join_end wk h
         ·revert h;refine cut_join (fun (v61,v62)=>⟨X::X::AV.ref 70 0::X::AV.ref 72 0::dd 5 (AV.d (D.l 3 Unknown.toD v1)::AV.d (D.i (v1.length:Int))::AV.d (D.i (i29:Int))::dd 11 (AV.d (D.b true)::X::X::X::AV.d (D.b false)::X::X::X::AV.d (D.b v61)::dd 6 ([]))),N::N::some (OB.box Attrs.zv)::nn 67 (some (OB.box Attrs.zv)::N::some (OB.box [AV.d (D.i v62),AV.own 106 (List.map Segment.toD v37).length,AV.d (D.b v31),AV.d (D.u64 v32),AV.d (D.u64 v33),AV.d (D.i v34),AV.d (D.i v35),AV.d (D.i v36),AV.own 105 (List.map Community.toD v38).length,AV.own 104 (List.map Large.toD v39).length,AV.d (D.nil 3)])::nn 31 (some (OB.row 108 3 (List.map Large.toD v39) .no)::some (OB.row 106 2 (List.map Community.toD v38) .no)::some (OB.row 84 2 (List.map Segment.toD v37) .no)::nn 127 ([])))⟩) ?_ ?_
          ·intro k63 h;(conv=>whnf);refine inl Tryd.f137 107 (by kernel_rfl) (by kernel_rfl) ⟨rfl,?_⟩;obtain ⟨v64,g65,h⟩:=bind_inv h;refine ⟨_,_,some [],attribute_get_ok g65,?_⟩;revert h;refine cut_join (fun v66=>⟨dd 4 (AV.d (D.b v66)::dd 15 ([])),N::N::some (OB.box Attrs.zv)::nn 67 (some (OB.box Attrs.zv)::N::some (OB.box [AV.d (D.i v64),AV.own 106 (List.map Segment.toD v37).length,AV.d (D.b v31),AV.d (D.u64 v32),AV.d (D.u64 v33),AV.d (D.i v34),AV.d (D.i v35),AV.d (D.i v36),AV.own 105 (List.map Community.toD v38).length,AV.own 104 (List.map Large.toD v39).length,AV.d (D.nil 3)])::N::some (OB.box (Unknown.av x42))::nn 29 (some (OB.row 108 3 (List.map Large.toD v39) .no)::some (OB.row 106 2 (List.map Community.toD v38) .no)::some (OB.row 84 2 (List.map Segment.toD v37) .no)::nn 127 ([])))⟩) ?_ ?_
           ·intro k67 h;refine ⟨x42.Data.length,List.length_map _,?_⟩;revert h;refine sel_if ?_ ?_<;>intro h
            ·exact join_end wk h
            ·exact join_end wk h
           ·rintro v66 h;exact join_end wk h
          ·rintro ⟨v61,v62⟩ h;exact join_end wk h
        ·rintro ⟨v56,v57⟩ h;(conv=>whnf);refine .go ?_;revert h;refine sel_if ?_ ?_<;>intro h
         ·exact join_end wk h
         ·exact join_end wk h
       ·replace h:=ite_f g55 h;by_cases g68:(x42.Type_ == 2)=true
        ·replace h:=ite_t g68 h;refine ⟨_,(gget_miss g55 (gget_hit g68)),_,rfl,_,rfl,?_⟩;revert h;refine cut_join (fun (v69,v70)=>⟨X::X::AV.ref 70 0::X::AV.ref 72 0::dd 5 (AV.d (D.l 3 Unknown.toD v1)::AV.d (D.i (v1.length:Int))::AV.d (D.i (i29:Int))::dd 22 (AV.d (D.b v69)::X::X::X::[])),N::N::some (OB.box Attrs.zv)::nn 67 (some (OB.box Attrs.zv)::N::some (OB.box [AV.d (D.i v30),AV.own 106 (List.map Segment.toD v70).length,AV.d (D.b v31),AV.d (D.u64 v32),AV.d (D.u64 v33),AV.d (D.i v34),AV.d (D.i v35),AV.d (D.i v36),AV.own 105 (List.map Community.toD v38).length,AV.own 104 (List.map Large.toD v39).length,AV.d (D.nil 3)])::nn 31 (some (OB.row 108 3 (List.map Large.toD v39) .no)::some (OB.row 106 2 (List.map Community.toD v38) .no)::some (OB.row 84 2 (List.map Segment.toD v70) .no)::nn 127 ([])))⟩) ?_ ?_
         ·intro k71 h;obtain ⟨v72,g73,h⟩:=bind_inv h;refine ⟨_,_,some [],attribute_right_ok g73,?_⟩;revert h;refine sel_if ?_ ?_<;>intro h
          ·exact join_end wk h
          ·revert h;refine cut_join (fun (v74,v75)=>⟨X::X::AV.ref 70 0::X::AV.ref 72 0::dd 5 (AV.d (D.l 3 Unknown.toD v1)::AV.d (D.i (v1.length:Int))::AV.d (D.i (i29:Int))::dd 11 (AV.d (D.b true)::X::X::X::AV.d (D.b false)::X::X::X::AV.d (D.b v74)::dd 6 ([]))),N::N::some (OB.box Attrs.zv)::nn 67 (some (OB.box Attrs.zv)::N::some (OB.box [AV.d (D.i v30),AV.own 106 (List.map Segment.toD v75).length,AV.d (D.b v31),AV.d (D.u64 v32),AV.d (D.u64 v33),AV.d (D.i v34),AV.d (D.i v35),AV.d (D.i v36),AV.own 105 (List.map Community.toD v38).length,AV.own 104 (List.map Large.toD v39).length,AV.d (D.nil 3)])::nn 31 (some (OB.row 108 3 (List.map Large.toD v39) .no)::some (OB.row 106 2 (List.map Community.toD v38) .no)::some (OB.row 84 2 (List.map Segment.toD v75) .no)::nn 127 ([])))⟩) ?_ ?_
           ·intro k76 h;(conv=>whnf);refine inl Tryd.f138 107 (by kernel_rfl) (by kernel_rfl) ⟨rfl,?_⟩;revert h;refine cut_join (fun v77=>⟨AV.ref 72 0::dd 126 ([]),N::N::some (OB.box Attrs.zv)::nn 67 (some (OB.box Attrs.zv)::N::some (OB.box [AV.d (D.i v30),AV.own 106 (List.map Segment.toD v77).length,AV.d (D.b v31),AV.d (D.u64 v32),AV.d (D.u64 v33),AV.d (D.i v34),AV.d (D.i v35),AV.d (D.i v36),AV.own 105 (List.map Community.toD v38).length,AV.own 104 (List.map Large.toD v39).length,AV.d (D.nil 3)])::N::some (OB.box (Unknown.av x42))::nn 29 (some (OB.row 108 3 (List.map Large.toD v39) .no)::some (OB.row 106 2 (List.map Community.toD v38) .no)::some (OB.row 84 2 (List.map Segment.toD v77) .no)::nn 127 ([])))⟩) ?_ ?_
            ·intro k78 h;obtain ⟨_,g79,h⟩:=bind_inv h;have g79l:(List.map Segment.toD v37).length=0:=(by rw [chk_inv g79];rfl);revert h;refine loop_while (fun (v80,v81,v82,v83)=>⟨AV.ref 72 0::AV.d (D.l 1 D.u8 v80)::dd 125 ([]),N::N::some (OB.box Attrs.zv)::nn 67 (some (OB.box Attrs.zv)::N::some (OB.box [AV.d (D.i v30),AV.own 106 (List.map Segment.toD v81).length,AV.d (D.b v31),AV.d (D.u64 v32),AV.d (D.u64 v33),AV.d (D.i v34),AV.d (D.i v35),AV.d (D.i v36),AV.own 105 (List.map Community.toD v38).length,AV.own 104 (List.map Large.toD v39).length,AV.d (D.nil 3)])::N::some (OB.box (Unknown.av x42))::nn 29 (some (OB.row 108 3 (List.map Large.toD v39) .no)::some (OB.row 106 2 (List.map Community.toD v38) .no)::some (OB.row 84 2 (List.map Segment.toD v81) (.lk v82 1 232 (List.map D.i v83).length))::nn 125 (some (OB.row 3 1 (List.map D.i v83) .yes)::N::[])))⟩) ?_ ?_
             ·exact wk
             rintro next84 ⟨v80,v81,v82,v83⟩ K85 h hK86;refine ⟨v80.length,List.length_map _,?_⟩;(conv=>whnf);refine .go ?_;revert h;refine sel_if ?_ ?_<;>intro h
             ·(conv=>whnf);refine .go ?_;revert h;refine cut_join (fun v87=>⟨AV.ref 72 0::AV.d (D.l 1 D.u8 v80)::dd 40 (AV.d (D.b v87)::dd 84 ([])),N::N::some (OB.box Attrs.zv)::nn 67 (some (OB.box Attrs.zv)::N::some (OB.box [AV.d (D.i v30),AV.own 106 (List.map Segment.toD v81).length,AV.d (D.b v31),AV.d (D.u64 v32),AV.d (D.u64 v33),AV.d (D.i v34),AV.d (D.i v35),AV.d (D.i v36),AV.own 105 (List.map Community.toD v38).length,AV.own 104 (List.map Large.toD v39).length,AV.d (D.nil 3)])::N::some (OB.box (Unknown.av x42))::nn 29 (some (OB.row 108 3 (List.map Large.toD v39) .no)::some (OB.row 106 2 (List.map Community.toD v38) .no)::some (OB.row 84 2 (List.map Segment.toD v81) (.lk v82 1 232 (List.map D.i v83).length))::nn 125 (some (OB.row 3 1 (List.map D.i v83) .yes)::N::[])))⟩) ?_ ?_
              ·intro k88 h;refine ⟨v80.length,List.length_map _,?_⟩;revert h;refine sel_if ?_ ?_<;>intro h
               ·exact join_end wk h
               ·obtain ⟨v89,g90,h⟩:=bind_inv h;refine ⟨geti_b (f:=D.u8) g90,D.u8 v89,geti_d (f:=D.u8) g90,rfl,?_⟩;revert h;refine sel_if ?_ ?_<;>intro h
                ·obtain ⟨v91,g92,h⟩:=bind_inv h;refine ⟨geti_b (f:=D.u8) g92,D.u8 v91,geti_d (f:=D.u8) g92,rfl,?_⟩;revert h;refine sel_if ?_ ?_<;>intro h
                 ·exact join_end wk h
                 ·refine ⟨v80.length,List.length_map _,?_⟩;obtain ⟨v93,g94,h⟩:=bind_inv h;refine ⟨geti_b (f:=D.u8) g94,D.u8 v93,geti_d (f:=D.u8) g94,rfl,?_⟩;refine ⟨_,i64_of_u8 v93,?_⟩;refine ⟨_,rfl,?_⟩;refine ⟨_,rfl,?_⟩;revert h;refine sel_if ?_ ?_<;>intro h
                  ·exact join_end wk h
                  ·obtain ⟨v95,g96,h⟩:=bind_inv h;refine ⟨geti_b (f:=D.u8) g96,D.u8 v95,geti_d (f:=D.u8) g96,rfl,?_⟩;exact join_end wk h
                ·refine ⟨v80.length,List.length_map _,?_⟩;obtain ⟨v97,g98,h⟩:=bind_inv h;refine ⟨geti_b (f:=D.u8) g98,D.u8 v97,geti_d (f:=D.u8) g98,rfl,?_⟩;refine ⟨_,i64_of_u8 v97,?_⟩;refine ⟨_,rfl,?_⟩;refine ⟨_,rfl,?_⟩;revert h;refine sel_if ?_ ?_<;>intro h
                 ·exact join_end wk h
                 ·obtain ⟨v99,g100,h⟩:=bind_inv h;refine ⟨geti_b (f:=D.u8) g100,D.u8 v99,geti_d (f:=D.u8) g100,rfl,?_⟩;exact join_end wk h
              ·rintro v87 h;(conv=>whnf);refine .go ?_;revert h;refine sel_if ?_ ?_<;>intro h
               ·exact join_end (.swap 232 103 rfl rfl rfl wk) h
               ·obtain ⟨v101,g102,h⟩:=bind_inv h;refine ⟨geti_b (f:=D.u8) g102,D.u8 v101,geti_d (f:=D.u8) g102,rfl,?_⟩;refine ⟨_,i64_of_u8 v101,?_⟩;refine ⟨_,rfl,?_⟩;refine ⟨_,rfl,?_⟩;(conv=>whnf);refine .inl (dOB (by kernel_rfl) ?_);obtain ⟨v103,g104,h⟩:=bind_inv h;refine ⟨geti_b (f:=D.u8) g104,D.u8 v103,geti_d (f:=D.u8) g104,rfl,?_⟩;obtain ⟨v105,g106,h⟩:=bind_inv h;refine ⟨part_b (f:=D.u8) g106,_,part_z (f:=D.u8) g106,?_⟩;obtain ⟨v107,g108,h⟩:=bind_inv h;refine ⟨_,_,attribute_numbers_ok g108,.inr rfl,?_⟩;(conv=>whnf);refine cOB (by kernel_rfl) ?_;obtain ⟨v109,g110,h⟩:=bind_inv h;refine ⟨part_b0 (f:=D.u8) g110,_,part_z0 (f:=D.u8) g110,?_⟩;revert h;refine cut_join (fun v111=>⟨AV.ref 72 0::AV.d (D.l 1 D.u8 v109)::dd 4 (AV.ref 113 0::dd 120 ([])),N::N::some (OB.box Attrs.zv)::nn 67 (some (OB.box Attrs.zv)::N::some (OB.box [AV.d (D.i v30),AV.own 106 (List.map Segment.toD v81).length,AV.d (D.b v31),AV.d (D.u64 v32),AV.d (D.u64 v33),AV.d (D.i v34),AV.d (D.i v35),AV.d (D.i v36),AV.own 105 (List.map Community.toD v38).length,AV.own 104 (List.map Large.toD v39).length,AV.d (D.nil 3)])::N::some (OB.box (Unknown.av x42))::nn 29 (some (OB.row 108 3 (List.map Large.toD v39) .no)::some (OB.row 106 2 (List.map Community.toD v38) .no)::some (OB.row 84 2 (List.map Segment.toD v81) (.lk v82 1 232 (List.map D.i v83).length))::nn 6 (some (OB.box [AV.d (D.b ((v103.toNat:Int) == 1)),AV.own 175 (List.map D.i v111).length])::nn 61 (some (OB.row 3 1 (List.map D.i v111) .no)::nn 56 (some (OB.row 3 1 (List.map D.i v83) .yes)::N::[])))))⟩) ?_ ?_
                ·intro k112 h;revert h;refine sel_if ?_ ?_<;>intro h
                 ·obtain ⟨v113,g114,h⟩:=bind_inv h;have g114l:=sortI_len g114;refine ⟨_,_,some [],sorti147_ok g114,?_⟩;obtain ⟨v115,g116,h⟩:=bind_inv h;have g117:(List.map D.i v113).length=(List.map D.i v107).length:=(by first | rfl | (simp only [List.length_map,List.length_set];omega) | (simp only [List.length_map,List.length_set,List.length_append,List.length_take,List.length_drop,List.length_replicate];omega) | (simp only [List.length_map] at *;omega));refine ⟨_,_,some [175],(g117 ▸ slices_Compact_int_int_ok g116),?_⟩;exact join_end wk h
                 ·exact join_end (.swap 163 175 rfl rfl rfl wk) h
                ·rintro v111 h;refine ⟨v81.length,by first | exact List.length_map _ | rfl | (simp only [List.length_map];omega),?_⟩;refine ⟨_,rfl,?_⟩;revert h;refine cut_join (fun v118=>⟨AV.ref 72 0::AV.d (D.l 1 D.u8 v109)::dd 4 (AV.ref 113 0::AV.d (D.i (i64w ((v81.length:Int) - 1)))::dd 85 (AV.d (D.b v118)::dd 33 ([]))),N::N::some (OB.box Attrs.zv)::nn 67 (some (OB.box Attrs.zv)::N::some (OB.box [AV.d (D.i v30),AV.own 106 (List.map Segment.toD v81).length,AV.d (D.b v31),AV.d (D.u64 v32),AV.d (D.u64 v33),AV.d (D.i v34),AV.d (D.i v35),AV.d (D.i v36),AV.own 105 (List.map Community.toD v38).length,AV.own 104 (List.map Large.toD v39).length,AV.d (D.nil 3)])::N::some (OB.box (Unknown.av x42))::nn 29 (some (OB.row 108 3 (List.map Large.toD v39) .no)::some (OB.row 106 2 (List.map Community.toD v38) .no)::some (OB.row 84 2 (List.map Segment.toD v81) (.lk v82 1 232 (List.map D.i v83).length))::nn 6 (some (OB.box [AV.d (D.b ((v103.toNat:Int) == 1)),AV.own 175 (List.map D.i v111).length])::nn 61 (some (OB.row 3 1 (List.map D.i v111) .no)::nn 56 (some (OB.row 3 1 (List.map D.i v83) .yes)::N::[])))))⟩) ?_ ?_
                 ·intro k119 h;revert h;refine sel_if ?_ ?_<;>intro h
                  ·revert h;refine sel_if ?_ ?_<;>intro h
                   ·obtain ⟨v120,g121,h⟩:=bind_inv h;refine ⟨rfl,geti_b (f:=Segment.toD) g121,?_⟩;refine ⟨rfl,?_⟩;(conv=>whnf);refine .inl ?_;refine ⟨rfl,Segment.toD v120,(geti_d (f:=Segment.toD) g121),?_⟩;exact join_end wk h
                   ·exact join_end wk h
                  ·exact join_end wk h
                 ·rintro v118 h;revert h;refine cut_join (fun (v122,v123,v124)=>⟨AV.ref 72 0::AV.d (D.l 1 D.u8 v109)::dd 125 ([]),N::N::some (OB.box Attrs.zv)::nn 67 (some (OB.box Attrs.zv)::N::some (OB.box [AV.d (D.i v30),AV.own 106 (List.map Segment.toD v122).length,AV.d (D.b v31),AV.d (D.u64 v32),AV.d (D.u64 v33),AV.d (D.i v34),AV.d (D.i v35),AV.d (D.i v36),AV.own 105 (List.map Community.toD v38).length,AV.own 104 (List.map Large.toD v39).length,AV.d (D.nil 3)])::N::some (OB.box (Unknown.av x42))::nn 29 (some (OB.row 108 3 (List.map Large.toD v39) .no)::some (OB.row 106 2 (List.map Community.toD v38) .no)::some (OB.row 84 2 (List.map Segment.toD v122) (.lk v123 1 232 (List.map D.i v124).length))::nn 125 (some (OB.row 3 1 (List.map D.i v124) .yes)::N::[])))⟩) ?_ ?_
                  ·intro k125 h;revert h;refine sel_if ?_ ?_<;>intro h
                   ·(conv=>whnf);refine .inl (dOB (by kernel_rfl) ?_);obtain ⟨v126,g127,h⟩:=bind_inv h;refine ⟨rfl,geti_b (f:=Segment.toD) g127,?_⟩;refine ⟨rfl,?_⟩;obtain ⟨_,g128,h⟩:=bind_inv h;refine .inr ⟨rfl,chk_inv g128,rfl,(geti_lt (f:=Segment.toD) g127),by decide,rfl,?_⟩;refine ⟨rfl,?_⟩;obtain ⟨v129,g130,h⟩:=bind_inv h;refine ⟨rfl,apnd_b (f:=D.i) (g:=D.i) g130,_,apnd_z (f:=D.i) g130,?_⟩;obtain ⟨v131,g132,h⟩:=bind_inv h;refine ⟨rfl,geti_b (f:=Segment.toD) g132,?_⟩;refine ⟨rfl,?_⟩;obtain ⟨v133,g134,h⟩:=bind_inv h;have g134l:=seti_len g134;refine ⟨rfl,?_⟩;refine ⟨rfl,rfl,Segment.toD v131,(geti_d (f:=Segment.toD) g132),?_⟩;refine ⟨_,seti_z (f:=Segment.toD) g134,?_⟩;(conv=>whnf);refine cOB (by kernel_rfl) ?_;exact join_end wk h
                   ·(conv=>whnf);refine .inl (dOB (by kernel_rfl) ?_);(conv=>whnf);refine .inr (.inr ?_);refine ⟨1,175,_,rfl,?_⟩;refine ⟨rfl,?_⟩;refine ⟨rfl,?_⟩;obtain ⟨v135,g136,h⟩:=bind_inv h;refine ⟨rfl,apnd_b (f:=Segment.toD) (g:=Segment.toD) g136,_,apnd_z (f:=Segment.toD) g136,?_⟩;refine ⟨rfl,?_⟩;(conv=>whnf);refine cOB (by kernel_rfl) ?_;exact join_end (.swap 175 232 rfl rfl rfl wk) h
                  ·rintro ⟨v122,v123,v124⟩ h;exact hK86 _ _ wk h
             ·exact join_end wk h
            ·rintro v77 h;refine ⟨rfl,?_⟩;obtain ⟨v137,g138,h⟩:=bind_inv h;refine ⟨_,_,none,aspath_Valid_ok g138,?_⟩;exact join_end wk h
           ·rintro ⟨v74,v75⟩ h;exact join_end wk h
         ·rintro ⟨v69,v70⟩ h;(conv=>whnf);refine .go ?_;revert h;refine sel_if ?_ ?_<;>intro h
          ·exact join_end wk h
          ·exact join_end wk h
        ·replace h:=ite_f g68 h;by_cases g139:(x42.Type_ == 3)=true
         ·replace h:=ite_t g139 h;refine ⟨_,(gget_miss g55 (gget_miss g68 (gget_hit g139))),_,rfl,_,rfl,?_⟩;revert h;refine cut_join (fun (v140,v141,v142,v143)=>⟨X::X::AV.ref 70 0::X::AV.ref 72 0::dd 5 (AV.d (D.l 3 Unknown.toD v1)::AV.d (D.i (v1.length:Int))::AV.d (D.i (i29:Int))::dd 22 (AV.d (D.b v140)::X::X::X::[])),N::N::some (OB.box Attrs.zv)::nn 67 (some (OB.box Attrs.zv)::N::some (OB.box [AV.d (D.i v30),AV.own 106 (List.map Segment.toD v37).length,AV.d (D.b v141),AV.d (D.u64 v142),AV.d (D.u64 v143),AV.d (D.i v34),AV.d (D.i v35),AV.d (D.i v36),AV.own 105 (List.map Community.toD v38).length,AV.own 104 (List.map Large.toD v39).length,AV.d (D.nil 3)])::nn 31 (some (OB.row 108 3 (List.map Large.toD v39) .no)::some (OB.row 106 2 (List.map Community.toD v38) .no)::some (OB.row 84 2 (List.map Segment.toD v37) .no)::nn 127 ([])))⟩) ?_ ?_
          ·intro k144 h;obtain ⟨v145,g146,h⟩:=bind_inv h;refine ⟨_,_,some [],attribute_right_ok g146,?_⟩;revert h;refine sel_if ?_ ?_<;>intro h
           ·exact join_end wk h
           ·revert h;refine cut_join (fun (v147,v148,v149)=>⟨X::X::AV.ref 70 0::X::AV.ref 72 0::dd 5 (AV.d (D.l 3 Unknown.toD v1)::AV.d (D.i (v1.length:Int))::AV.d (D.i (i29:Int))::dd 11 (AV.d (D.b true)::X::X::X::AV.d (D.b false)::X::X::X::AV.d (D.b ((x42.Data.length:Int) == 4))::dd 6 ([]))),N::N::some (OB.box Attrs.zv)::nn 67 (some (OB.box Attrs.zv)::N::some (OB.box [AV.d (D.i v30),AV.own 106 (List.map Segment.toD v37).length,AV.d (D.b v147),AV.d (D.u64 v148),AV.d (D.u64 v149),AV.d (D.i v34),AV.d (D.i v35),AV.d (D.i v36),AV.own 105 (List.map Community.toD v38).length,AV.own 104 (List.map Large.toD v39).length,AV.d (D.nil 3)])::nn 31 (some (OB.row 108 3 (List.map Large.toD v39) .no)::some (OB.row 106 2 (List.map Community.toD v38) .no)::some (OB.row 84 2 (List.map Segment.toD v37) .no)::nn 127 ([])))⟩) ?_ ?_
            ·intro k150 h;(conv=>whnf);refine inl Tryd.f139 107 (by kernel_rfl) (by kernel_rfl) ⟨rfl,?_⟩;obtain ⟨⟨v151,v152⟩,g153,h⟩:=bind_inv h;refine ⟨_,_,some [],addr_FromBytes_ok g153,?_⟩;refine ⟨x42.Data.length,List.length_map _,?_⟩;exact join_end wk h
            ·rintro ⟨v147,v148,v149⟩ h;exact join_end wk h
          ·rintro ⟨v140,v141,v142,v143⟩ h;(conv=>whnf);refine .go ?_;revert h;refine sel_if ?_ ?_<;>intro h
           ·exact join_end wk h
           ·exact join_end wk h
         ·replace h:=ite_f g139 h;by_cases g154:(x42.Type_ == 4)=true
          ·replace h:=ite_t g154 h;refine ⟨_,(gget_miss g55 (gget_miss g68 (gget_miss g139 (gget_hit g154)))),_,rfl,_,rfl,?_⟩;revert h;refine cut_join (fun (v155,v156)=>⟨X::X::AV.ref 70 0::X::AV.ref 72 0::dd 5 (AV.d (D.l 3 Unknown.toD v1)::AV.d (D.i (v1.length:Int))::AV.d (D.i (i29:Int))::dd 22 (AV.d (D.b v155)::X::X::X::[])),N::N::some (OB.box Attrs.zv)::nn 67 (some (OB.box Attrs.zv)::N::some (OB.box [AV.d (D.i v30),AV.own 106 (List.map Segment.toD v37).length,AV.d (D.b v31),AV.d (D.u64 v32),AV.d (D.u64 v33),AV.d (D.i v156),AV.d (D.i v35),AV.d (D.i v36),AV.own 105 (List.map Community.toD v38).length,AV.own 104 (List.map Large.toD v39).length,AV.d (D.nil 3)])::nn 31 (some (OB.row 108 3 (List.map Large.toD v39) .no)::some (OB.row 106 2 (List.map Community.toD v38) .no)::some (OB.row 84 2 (List.map Segment.toD v37) .no)::nn 127 ([])))⟩) ?_ ?_
           ·intro k157 h;obtain ⟨v158,g159,h⟩:=bind_inv h;refine ⟨_,_,some [],attribute_right_ok g159,?_⟩;revert h;refine sel_if ?_ ?_<;>intro h
            ·exact join_end wk h
            ·revert h;refine cut_join (fun v160=>⟨X::X::AV.ref 70 0::X::AV.ref 72 0::dd 5 (AV.d (D.l 3 Unknown.toD v1)::AV.d (D.i (v1.length:Int))::AV.d (D.i (i29:Int))::dd 11 (AV.d (D.b true)::X::X::X::AV.d (D.b false)::X::X::X::AV.d (D.b ((x42.Data.length:Int) == 4))::dd 6 ([]))),N::N::some (OB.box Attrs.zv)::nn 67 (some (OB.box Attrs.zv)::N::some (OB.box [AV.d (D.i v30),AV.own 106 (List.map Segment.toD v37).length,AV.d (D.b v31),AV.d (D.u64 v32),AV.d (D.u64 v33),AV.d (D.i v160),AV.d (D.i v35),AV.d (D.i v36),AV.own 105 (List.map Community.toD v38).length,AV.own 104 (List.map Large.toD v39).length,AV.d (D.nil 3)])::nn 31 (some (OB.row 108 3 (List.map Large.toD v39) .no)::some (OB.row 106 2 (List.map Community.toD v38) .no)::some (OB.row 84 2 (List.map Segment.toD v37) .no)::nn 127 ([])))⟩) ?_ ?_
             ·intro k161 h;(conv=>whnf);refine inl Tryd.f140 107 (by kernel_rfl) (by kernel_rfl) ⟨rfl,?_⟩;revert h;refine cut_join (fun v162=>⟨dd 4 (AV.d (D.b false)::dd 4 (AV.d (D.b ((x42.Data.length:Int) == 4))::[])),N::N::some (OB.box Attrs.zv)::nn 67 (some (OB.box Attrs.zv)::N::some (OB.box [AV.d (D.i v30),AV.own 106 (List.map Segment.toD v37).length,AV.d (D.b v31),AV.d (D.u64 v32),AV.d (D.u64 v33),AV.d (D.i v162),AV.d (D.i v35),AV.d (D.i v36),AV.own 105 (List.map Community.toD v38).length,AV.own 104 (List.map Large.toD v39).length,AV.d (D.nil 3)])::N::some (OB.box (Unknown.av x42))::nn 29 (some (OB.row 108 3 (List.map Large.toD v39) .no)::some (OB.row 106 2 (List.map Community.toD v38) .no)::some (OB.row 84 2 (List.map Segment.toD v37) .no)::nn 127 ([])))⟩) ?_ ?_
              ·intro k163 h;(conv=>whnf);refine inl Tryd.f141 117 (by kernel_rfl) (by kernel_rfl) ⟨rfl,?_⟩;obtain ⟨v164,g165,h⟩:=bind_inv h;refine ⟨_,_,some [],attribute_get_ok g165,?_⟩;refine ⟨x42.Data.length,List.length_map _,?_⟩;exact join_end wk h
              ·rintro v162 h;exact join_end wk h
             ·rintro v160 h;exact join_end wk h
           ·rintro ⟨v155,v156⟩ h;(conv=>whnf);refine .go ?_;revert h;refine sel_if ?_ ?_<;>intro h
            ·exact join_end wk h
            ·exact join_end wk h
          ·replace h:=ite_f g154 h;by_cases g166:(x42.Type_ == 5)=true
           ·replace h:=ite_t g166 h;refine ⟨_,(gget_miss g55 (gget_miss g68 (gget_miss g139 (gget_miss g154 (gget_hit g166))))),_,rfl,_,rfl,?_⟩;revert h;refine cut_join (fun (v167,v168)=>⟨X::X::AV.ref 70 0::X::AV.ref 72 0::dd 5 (AV.d (D.l 3 Unknown.toD v1)::AV.d (D.i (v1.length:Int))::AV.d (D.i (i29:Int))::dd 22 (AV.d (D.b v167)::X::X::X::[])),N::N::some (OB.box Attrs.zv)::nn 67 (some (OB.box Attrs.zv)::N::some (OB.box [AV.d (D.i v30),AV.own 106 (List.map Segment.toD v37).length,AV.d (D.b v31),AV.d (D.u64 v32),AV.d (D.u64 v33),AV.d (D.i v34),AV.d (D.i v168),AV.d (D.i v36),AV.own 105 (List.map Community.toD v38).length,AV.own 104 (List.map Large.toD v39).length,AV.d (D.nil 3)])::nn 31 (some (OB.row 108 3 (List.map Large.toD v39) .no)::some (OB.row 106 2 (List.map Community.toD v38) .no)::some (OB.row 84 2 (List.map Segment.toD v37) .no)::nn 127 ([])))⟩) ?_ ?_
            ·intro k169 h;obtain ⟨v170,g171,h⟩:=bind_inv h;refine ⟨_,_,some [],attribute_right_ok g171,?_⟩;revert h;refine sel_if ?_ ?_<;>intro h
             ·exact join_end wk h
             ·revert h;refine cut_join (fun v172=>⟨X::X::AV.ref 70 0::X::AV.ref 72 0::dd 5 (AV.d (D.l 3 Unknown.toD v1)::AV.d (D.i (v1.length:Int))::AV.d (D.i (i29:Int))::dd 11 (AV.d (D.b true)::X::X::X::AV.d (D.b false)::X::X::X::AV.d (D.b ((x42.Data.length:Int) == 4))::dd 6 ([]))),N::N::some (OB.box Attrs.zv)::nn 67 (some (OB.box Attrs.zv)::N::some (OB.box [AV.d (D.i v30),AV.own 106 (List.map Segment.toD v37).length,AV.d (D.b v31),AV.d (D.u64 v32),AV.d (D.u64 v33),AV.d (D.i v34),AV.d (D.i v172),AV.d (D.i v36),AV.own 105 (List.map Community.toD v38).length,AV.own 104 (List.map Large.toD v39).length,AV.d (D.nil 3)])::nn 31 (some (OB.row 108 3 (List.map Large.toD v39) .no)::some (OB.row 106 2 (List.map Community.toD v38) .no)::some (OB.row 84 2 (List.map Segment.toD v37) .no)::nn 127 ([])))⟩) ?_ ?_
              ·intro k173 h;(conv=>whnf);refine inl Tryd.f142 107 (by kernel_rfl) (by kernel_rfl) ⟨rfl,?_⟩;revert h;refine cut_join (fun v174=>⟨dd 4 (AV.d (D.b false)::dd 4 (AV.d (D.b ((x42.Data.length:Int) == 4))::[])),N::N::some (OB.box Attrs.zv)::nn 67 (some (OB.box Attrs.zv)::N::some (OB.box [AV.d (D.i v30),AV.own 106 (List.map Segment.toD v37).length,AV.d (D.b v31),AV.d (D.u64 v32),AV.d (D.u64 v33),AV.d (D.i v34),AV.d (D.i v174),AV.d (D.i v36),AV.own 105 (List.map Community.toD v38).length,AV.own 104 (List.map Large.toD v39).length,AV.d (D.nil 3)])::N::some (OB.box (Unknown.av x42))::nn 29 (some (OB.row 108 3 (List.map Large.toD v39) .no)::some (OB.row 106 2 (List.map Community.toD v38) .no)::some (OB.row 84 2 (List.map Segment.toD v37) .no)::nn 127 ([])))⟩) ?_ ?_
               ·intro k175 h;(conv=>whnf);refine inl Tryd.f141 117 (by kernel_rfl) (by kernel_rfl) ⟨rfl,?_⟩;obtain ⟨v176,g177,h⟩:=bind_inv h;refine ⟨_,_,some [],attribute_get_ok g177,?_⟩;refine ⟨x42.Data.length,List.length_map _,?_⟩;exact join_end wk h
               ·rintro v174 h;exact join_end wk h
              ·rintro v172 h;exact join_end wk h
            ·rintro ⟨v167,v168⟩ h;(conv=>whnf);refine .go ?_;revert h;refine sel_if ?_ ?_<;>intro h
             ·exact join_end wk h
             ·exact join_end wk h
           ·replace h:=ite_f g166 h;by_cases g178:(x42.Type_ == 8)=true
            ·replace h:=ite_t g178 h;refine ⟨_,(gget_miss g55 (gget_miss g68 (gget_miss g139 (gget_miss g154 (gget_miss g166 (gget_hit g178)))))),_,rfl,_,rfl,?_⟩;revert h;refine cut_join (fun (v179,v180)=>⟨X::X::AV.ref 70 0::X::AV.ref 72 0::dd 5 (AV.d (D.l 3 Unknown.toD v1)::AV.d (D.i (v1.length:Int))::AV.d (D.i (i29:Int))::dd 22 (AV.d (D.b v179)::X::X::X::[])),N::N::some (OB.box Attrs.zv)::nn 67 (some (OB.box Attrs.zv)::N::some (OB.box [AV.d (D.i v30),AV.own 106 (List.map Segment.toD v37).length,AV.d (D.b v31),AV.d (D.u64 v32),AV.d (D.u64 v33),AV.d (D.i v34),AV.d (D.i v35),AV.d (D.i v36),AV.own 105 (List.map Community.toD v180).length,AV.own 104 (List.map Large.toD v39).length,AV.d (D.nil 3)])::nn 31 (some (OB.row 108 3 (List.map Large.toD v39) .no)::some (OB.row 106 2 (List.map Community.toD v180) .no)::some (OB.row 84 2 (List.map Segment.toD v37) .no)::nn 127 ([])))⟩) ?_ ?_
             ·intro k181 h;obtain ⟨v182,g183,h⟩:=bind_inv h;refine ⟨_,_,some [],attribute_right_ok g183,?_⟩;revert h;refine sel_if ?_ ?_<;>intro h
              ·exact join_end wk h
              ·revert h;refine cut_join (fun (v184,v185)=>⟨X::X::AV.ref 70 0::X::AV.ref 72 0::dd 5 (AV.d (D.l 3 Unknown.toD v1)::AV.d (D.i (v1.length:Int))::AV.d (D.i (i29:Int))::dd 11 (AV.d (D.b true)::X::X::X::AV.d (D.b false)::X::X::X::AV.d (D.b v184)::dd 6 ([]))),N::N::some (OB.box Attrs.zv)::nn 67 (some (OB.box Attrs.zv)::N::some (OB.box [AV.d (D.i v30),AV.own 106 (List.map Segment.toD v37).length,AV.d (D.b v31),AV.d (D.u64 v32),AV.d (D.u64 v33),AV.d (D.i v34),AV.d (D.i v35),AV.d (D.i v36),AV.own 105 (List.map Community.toD v185).length,AV.own 104 (List.map Large.toD v39).length,AV.d (D.nil 3)])::nn 31 (some (OB.row 108 3 (List.map Large.toD v39) .no)::some (OB.row 106 2 (List.map Community.toD v185) .no)::some (OB.row 84 2 (List.map Segment.toD v37) .no)::nn 127 ([])))⟩) ?_ ?_
               ·intro k186 h;(conv=>whnf);refine inl Tryd.f143 107 (by kernel_rfl) (by kernel_rfl) ⟨rfl,?_⟩;obtain ⟨v187,g188,h⟩:=bind_inv h;refine ⟨_,_,some [117],attribute_numbers_ok g188,?_⟩;refine ⟨v187.length,by first | exact List.length_map _ | rfl | (simp only [List.length_map];omega),?_⟩;revert h;refine cut_join (fun v189=>⟨AV.ref 72 0::AV.d (D.l 1 D.u8 x42.Data)::X::X::X::AV.own 112 (List.map Community.toD v189).length::dd 41 ([]),N::N::some (OB.box Attrs.zv)::nn 67 (some (OB.box Attrs.zv)::N::some (OB.box [AV.d (D.i v30),AV.own 106 (List.map Segment.toD v37).length,AV.d (D.b v31),AV.d (D.u64 v32),AV.d (D.u64 v33),AV.d (D.i v34),AV.d (D.i v35),AV.d (D.i v36),AV.own 105 (List.map Community.toD v38).length,AV.own 104 (List.map Large.toD v39).length,AV.d (D.nil 3)])::N::some (OB.box (Unknown.av x42))::nn 29 (some (OB.row 108 3 (List.map Large.toD v39) .no)::some (OB.row 106 2 (List.map Community.toD v38) .no)::some (OB.row 84 2 (List.map Segment.toD v37) .no)::nn 5 (some (OB.row 106 2 (List.map Community.toD v189) .no)::nn 121 ([]))))⟩) ?_ ?_
                ·intro k190 h;revert h;refine loop_own 117 3 1 .no D.i rfl (fun i191 v192=>⟨AV.ref 72 0::AV.d (D.l 1 D.u8 x42.Data)::X::X::X::AV.own 112 (List.map Community.toD v192).length::dd 4 (AV.own 117 (List.map D.i v187).length::AV.d (D.i (v187.length:Int))::AV.d (D.i (i191:Int))::dd 34 ([])),N::N::some (OB.box Attrs.zv)::nn 67 (some (OB.box Attrs.zv)::N::some (OB.box [AV.d (D.i v30),AV.own 106 (List.map Segment.toD v37).length,AV.d (D.b v31),AV.d (D.u64 v32),AV.d (D.u64 v33),AV.d (D.i v34),AV.d (D.i v35),AV.d (D.i v36),AV.own 105 (List.map Community.toD v38).length,AV.own 104 (List.map Large.toD v39).length,AV.d (D.nil 3)])::N::some (OB.box (Unknown.av x42))::nn 29 (some (OB.row 108 3 (List.map Large.toD v39) .no)::some (OB.row 106 2 (List.map Community.toD v38) .no)::some (OB.row 84 2 (List.map Segment.toD v37) .no)::nn 5 (some (OB.row 106 2 (List.map Community.toD v192) .no)::nn 4 (some (OB.row 3 1 (List.map D.i v187) .no)::nn 116 ([])))))⟩) ?_ ?_ ?_
                 ·exact wk
                 ·rintro v192 K193 h;(conv=>whnf);refine .go ?_;(conv=>whnf);refine sel_f lt_f ?_;exact join_end wk h
                 ·rintro next194 i191 x195 v192 K193 hii191 hxi191 hwi191 h hK196;(conv=>whnf);refine .go ?_;(conv=>whnf);refine sel_t (lt_t hii191) ?_;(conv=>whnf);refine .go ?_;refine ⟨rfl,idx_b (f:=D.i) hii191,?_⟩;refine ⟨rfl,D.i x195,hxi191,?_⟩;refine ⟨by decide,_,rfl,?_⟩;refine ⟨_,rfl,?_⟩;refine ⟨rfl,?_⟩;obtain ⟨v197,g198,h⟩:=bind_inv h;refine ⟨rfl,apnd_b (f:=Community.toD) (g:=Community.toD) g198,_,apnd_z (f:=Community.toD) g198,?_⟩;refine ⟨_,hwi191,?_⟩;exact hK196 _ _ wk h
                ·rintro v189 h;revert h;refine cut_join (fun (v199,v200)=>⟨AV.ref 72 0::AV.d (D.l 1 D.u8 x42.Data)::dd 6 (AV.d (D.b false)::dd 17 (AV.ref 72 0::X::AV.tup [AV.own 153 (List.map Community.toD v200).length,AV.d (D.b v199)]::dd 18 ([]))),N::N::some (OB.box Attrs.zv)::nn 67 (some (OB.box Attrs.zv)::N::some (OB.box [AV.d (D.i v30),AV.own 106 (List.map Segment.toD v37).length,AV.d (D.b v31),AV.d (D.u64 v32),AV.d (D.u64 v33),AV.d (D.i v34),AV.d (D.i v35),AV.d (D.i v36),AV.own 105 (List.map Community.toD v38).length,AV.own 104 (List.map Large.toD v39).length,AV.d (D.nil 3)])::N::some (OB.box (Unknown.av x42))::nn 29 (some (OB.row 108 3 (List.map Large.toD v39) .no)::some (OB.row 106 2 (List.map Community.toD v38) .no)::some (OB.row 84 2 (List.map Segment.toD v37) .no)::nn 46 (some (OB.row 106 2 (List.map Community.toD v200) .no)::nn 80 ([]))))⟩) ?_ ?_
                 ·intro k201 h;(conv=>whnf);refine inl Tryd.f150 154 (by kernel_rfl) (by kernel_rfl) ⟨rfl,?_⟩;revert h;refine cut_join (fun v202=>⟨AV.own 112 (List.map Community.toD v189).length::AV.fn 151 []::dd 4 (AV.d (D.b v202)::dd 14 ([])),N::N::some (OB.box Attrs.zv)::nn 67 (some (OB.box Attrs.zv)::N::some (OB.box [AV.d (D.i v30),AV.own 106 (List.map Segment.toD v37).length,AV.d (D.b v31),AV.d (D.u64 v32),AV.d (D.u64 v33),AV.d (D.i v34),AV.d (D.i v35),AV.d (D.i v36),AV.own 105 (List.map Community.toD v38).length,AV.own 104 (List.map Large.toD v39).length,AV.d (D.nil 3)])::N::some (OB.box (Unknown.av x42))::nn 29 (some (OB.row 108 3 (List.map Large.toD v39) .no)::some (OB.row 106 2 (List.map Community.toD v38) .no)::some (OB.row 84 2 (List.map Segment.toD v37) .no)::nn 5 (some (OB.row 106 2 (List.map Community.toD v189) .no)::nn 121 ([]))))⟩) ?_ ?_
                  ·intro k203 h;refine ⟨v189.length,by first | exact List.length_map _ | rfl | (simp only [List.length_map];omega),?_⟩;revert h;refine sel_if ?_ ?_<;>intro h
                   ·refine ⟨v189.length,by first | exact List.length_map _ | rfl | (simp only [List.length_map];omega),?_⟩;exact join_end wk h
                   ·exact join_end wk h
                  ·rintro v202 h;obtain ⟨v204,g205,h⟩:=bind_inv h;have g205l:=sortF_len g205;refine ⟨_,_,some [],sortf155_ok (f:=Community.toD) (enters_of Tryd.func151 (by kernel_rfl) rfl) (fun h=>attribute_readCommunities_1_ok h) g205,?_⟩;obtain ⟨v206,g207,h⟩:=bind_inv h;have g208:(List.map Community.toD v204).length=(List.map Community.toD v189).length:=(by first | rfl | (simp only [List.length_map,List.length_set];omega) | (simp only [List.length_map,List.length_set,List.length_append,List.length_take,List.length_drop,List.length_replicate];omega) | (simp only [List.length_map] at *;omega));refine ⟨_,_,some [173],(g208 ▸ slices_Compact_api_Community_api_Community_ok g207),?_⟩;exact join_end (.swap 173 153 rfl rfl rfl wk) h
                 ·rintro ⟨v199,v200⟩ h;revert h;refine cut_join (fun v209=>⟨dd 4 (AV.d (D.b v209)::dd 42 ([])),N::N::some (OB.box Attrs.zv)::nn 67 (some (OB.box Attrs.zv)::N::some (OB.box [AV.d (D.i v30),AV.own 106 (List.map Segment.toD v37).length,AV.d (D.b v31),AV.d (D.u64 v32),AV.d (D.u64 v33),AV.d (D.i v34),AV.d (D.i v35),AV.d (D.i v36),AV.own 153 (List.map Community.toD v200).length,AV.own 104 (List.map Large.toD v39).length,AV.d (D.nil 3)])::N::some (OB.box (Unknown.av x42))::nn 29 (some (OB.row 108 3 (List.map Large.toD v39) .no)::some (OB.row 106 2 (List.map Community.toD v38) .no)::some (OB.row 84 2 (List.map Segment.toD v37) .no)::nn 46 (some (OB.row 106 2 (List.map Community.toD v200) .no)::nn 80 ([]))))⟩) ?_ ?_
                  ·intro k210 h;revert h;refine sel_if ?_ ?_<;>intro h
                   ·refine ⟨x42.Data.length,List.length_map _,?_⟩;refine ⟨by decide,_,rfl,?_⟩;revert h;refine sel_if ?_ ?_<;>intro h
                    ·refine ⟨rfl,?_⟩;obtain ⟨v211,g212,h⟩:=bind_inv h;refine ⟨_,_,none,community_Valid_ok g212,?_⟩;exact join_end wk h
                    ·exact join_end wk h
                   ·exact join_end wk h
                  ·rintro v209 h;exact join_end (.swap 153 105 rfl rfl rfl wk) h
               ·rintro ⟨v184,v185⟩ h;exact join_end wk h
             ·rintro ⟨v179,v180⟩ h;(conv=>whnf);refine .go ?_;revert h;refine sel_if ?_ ?_<;>intro h
              ·exact join_end wk h
              ·exact join_end wk h
            ·replace h:=ite_f g178 h;by_cases g213:(x42.Type_ == 32)=true
             ·replace h:=ite_t g213 h;refine ⟨_,(gget_miss g55 (gget_miss g68 (gget_miss g139 (gget_miss g154 (gget_miss g166 (gget_miss g178 (gget_hit g213))))))),_,rfl,_,rfl,?_⟩;revert h;refine cut_join (fun (v214,v215)=>⟨X::X::AV.ref 70 0::X::AV.ref 72 0::dd 5 (AV.d (D.l 3 Unknown.toD v1)::AV.d (D.i (v1.length:Int))::AV.d (D.i (i29:Int))::dd 22 (AV.d (D.b v214)::X::X::X::[])),N::N::some (OB.box Attrs.zv)::nn 67 (some (OB.box Attrs.zv)::N::some (OB.box [AV.d (D.i v30),AV.own 106 (List.map Segment.toD v37).length,AV.d (D.b v31),AV.d (D.u64 v32),AV.d (D.u64 v33),AV.d (D.i v34),AV.d (D.i v35),AV.d (D.i v36),AV.own 105 (List.map Community.toD v38).length,AV.own 104 (List.map Large.toD v215).length,AV.d (D.nil 3)])::nn 31 (some (OB.row 108 3 (List.map Large.toD v215) .no)::some (OB.row 106 2 (List.map Community.toD v38) .no)::some (OB.row 84 2 (List.map Segment.toD v37) .no)::nn 127 ([])))⟩) ?_ ?_
              ·intro k216 h;obtain ⟨v217,g218,h⟩:=bind_inv h;refine ⟨_,_,some [],attribute_right_ok g218,?_⟩;revert h;refine sel_if ?_ ?_<;>intro h
               ·exact join_end wk h
               ·revert h;refine cut_join (fun (v219,v220)=>⟨X::X::AV.ref 70 0::X::AV.ref 72 0::dd 5 (AV.d (D.l 3 Unknown.toD v1)::AV.d (D.i (v1.length:Int))::AV.d (D.i (i29:Int))::dd 11 (AV.d (D.b true)::X::X::X::AV.d (D.b false)::X::X::X::AV.d (D.b v219)::dd 6 ([]))),N::N::some (OB.box Attrs.zv)::nn 67 (some (OB.box Attrs.zv)::N::some (OB.box [AV.d (D.i v30),AV.own 106 (List.map Segment.toD v37).length,AV.d (D.b v31),AV.d (D.u64 v32),AV.d (D.u64 v33),AV.d (D.i v34),AV.d (D.i v35),AV.d (D.i v36),AV.own 105 (List.map Community.toD v38).length,AV.own 104 (List.map Large.toD v220).length,AV.d (D.nil 3)])::nn 31 (some (OB.row 108 3 (List.map Large.toD v220) .no)::some (OB.row 106 2 (List.map Community.toD v38) .no)::some (OB.row 84 2 (List.map Segment.toD v37) .no)::nn 127 ([])))⟩) ?_ ?_
                ·intro k221 h;(conv=>whnf);refine inl Tryd.f144 107 (by kernel_rfl) (by kernel_rfl) ⟨rfl,?_⟩;refine ⟨x42.Data.length,List.length_map _,?_⟩;refine ⟨by decide,_,rfl,?_⟩;(conv=>whnf);refine .go ?_;revert h;refine sel_if ?_ ?_<;>intro h
                 ·exact join_end wk h
                 ·obtain ⟨v222,g223,h⟩:=bind_inv h;refine ⟨_,_,some [120],attribute_numbers_ok g223,?_⟩;revert h;refine cut_join (fun v224=>⟨AV.ref 72 0::dd 4 (AV.own 112 (List.map Large.toD v224).length::dd 42 ([])),N::N::some (OB.box Attrs.zv)::nn 67 (some (OB.box Attrs.zv)::N::some (OB.box [AV.d (D.i v30),AV.own 106 (List.map Segment.toD v37).length,AV.d (D.b v31),AV.d (D.u64 v32),AV.d (D.u64 v33),AV.d (D.i v34),AV.d (D.i v35),AV.d (D.i v36),AV.own 105 (List.map Community.toD v38).length,AV.own 104 (List.map Large.toD v39).length,AV.d (D.nil 3)])::N::some (OB.box (Unknown.av x42))::nn 29 (some (OB.row 108 3 (List.map Large.toD v39) .no)::some (OB.row 106 2 (List.map Community.toD v38) .no)::some (OB.row 84 2 (List.map Segment.toD v37) .no)::nn 5 (some (OB.row 108 3 (List.map Large.toD v224) .no)::nn 121 ([]))))⟩) ?_ ?_
                  ·intro k225 h;revert h;refine loop_while (fun (v226,v227)=>⟨AV.ref 72 0::dd 4 (AV.own 112 (List.map Large.toD v226).length::AV.own 120 (List.map D.i v227).length::dd 41 ([])),N::N::some (OB.box Attrs.zv)::nn 67 (some (OB.box Attrs.zv)::N::some (OB.box [AV.d (D.i v30),AV.own 106 (List.map Segment.toD v37).length,AV.d (D.b v31),AV.d (D.u64 v32),AV.d (D.u64 v33),AV.d (D.i v34),AV.d (D.i v35),AV.d (D.i v36),AV.own 105 (List.map Community.toD v38).length,AV.own 104 (List.map Large.toD v39).length,AV.d (D.nil 3)])::N::some (OB.box (Unknown.av x42))::nn 29 (some (OB.row 108 3 (List.map Large.toD v39) .no)::some (OB.row 106 2 (List.map Community.toD v38) .no)::some (OB.row 84 2 (List.map Segment.toD v37) .no)::nn 5 (some (OB.row 108 3 (List.map Large.toD v226) .no)::nn 7 (some (OB.row 3 1 (List.map D.i v227) .no)::nn 113 ([])))))⟩) ?_ ?_
                   ·exact wk
                   rintro next228 ⟨v226,v227⟩ K229 h hK230;refine ⟨v227.length,by first | exact List.length_map _ | rfl | (simp only [List.length_map];omega),?_⟩;(conv=>whnf);refine .go ?_;revert h;refine sel_if ?_ ?_<;>intro h
                   ·(conv=>whnf);refine .go ?_;(conv=>whnf);refine .inl (dOB (by kernel_rfl) ?_);obtain ⟨v231,g232,h⟩:=bind_inv h;refine ⟨rfl,geti_b (f:=D.i) g232,?_⟩;refine ⟨rfl,D.i v231,(geti_d (f:=D.i) g232),?_⟩;obtain ⟨v233,g234,h⟩:=bind_inv h;refine ⟨rfl,geti_b (f:=D.i) g234,?_⟩;refine ⟨rfl,D.i v233,(geti_d (f:=D.i) g234),?_⟩;obtain ⟨v235,g236,h⟩:=bind_inv h;refine ⟨rfl,geti_b (f:=D.i) g236,?_⟩;refine ⟨rfl,D.i v235,(geti_d (f:=D.i) g236),?_⟩;refine ⟨rfl,?_⟩;obtain ⟨v237,g238,h⟩:=bind_inv h;refine ⟨rfl,apnd_b (f:=Large.toD) (g:=Large.toD) g238,_,apnd_z (f:=Large.toD) g238,?_⟩;(conv=>whnf);refine cOB (by kernel_rfl) ?_;(conv=>whnf);refine .inr (.inr ?_);obtain ⟨v239,g240,h⟩:=bind_inv h;refine ⟨move_b0 (f:=D.i) g240,rfl,_,part_z0 (f:=D.i) g240,?_⟩;exact hK230 _ _ (.swap 125 120 rfl rfl rfl wk) h
                   ·exact join_end wk h
                  ·rintro v224 h;revert h;refine cut_join (fun (v241,v242)=>⟨AV.ref 72 0::dd 6 (AV.d (D.b false)::dd 25 (AV.ref 72 0::X::AV.tup [AV.own 154 (List.map Large.toD v242).length,AV.d (D.b v241)]::dd 12 ([]))),N::N::some (OB.box Attrs.zv)::nn 67 (some (OB.box Attrs.zv)::N::some (OB.box [AV.d (D.i v30),AV.own 106 (List.map Segment.toD v37).length,AV.d (D.b v31),AV.d (D.u64 v32),AV.d (D.u64 v33),AV.d (D.i v34),AV.d (D.i v35),AV.d (D.i v36),AV.own 105 (List.map Community.toD v38).length,AV.own 104 (List.map Large.toD v39).length,AV.d (D.nil 3)])::N::some (OB.box (Unknown.av x42))::nn 29 (some (OB.row 108 3 (List.map Large.toD v39) .no)::some (OB.row 106 2 (List.map Community.toD v38) .no)::some (OB.row 84 2 (List.map Segment.toD v37) .no)::nn 47 (some (OB.row 108 3 (List.map Large.toD v242) .no)::nn 79 ([]))))⟩) ?_ ?_
                   ·intro k243 h;(conv=>whnf);refine inl Tryd.f152 155 (by kernel_rfl) (by kernel_rfl) ⟨rfl,?_⟩;revert h;refine cut_join (fun v244=>⟨AV.own 112 (List.map Large.toD v224).length::AV.fn 153 []::dd 4 (AV.d (D.b v244)::dd 14 ([])),N::N::some (OB.box Attrs.zv)::nn 67 (some (OB.box Attrs.zv)::N::some (OB.box [AV.d (D.i v30),AV.own 106 (List.map Segment.toD v37).length,AV.d (D.b v31),AV.d (D.u64 v32),AV.d (D.u64 v33),AV.d (D.i v34),AV.d (D.i v35),AV.d (D.i v36),AV.own 105 (List.map Community.toD v38).length,AV.own 104 (List.map Large.toD v39).length,AV.d (D.nil 3)])::N::some (OB.box (Unknown.av x42))::nn 29 (some (OB.row 108 3 (List.map Large.toD v39) .no)::some (OB.row 106 2 (List.map Community.toD v38) .no)::some (OB.row 84 2 (List.map Segment.toD v37) .no)::nn 5 (some (OB.row 108 3 (List.map Large.toD v224) .no)::nn 121 ([]))))⟩) ?_ ?_
                    ·intro k245 h;refine ⟨v224.length,by first | exact List.length_map _ | rfl | (simp only [List.length_map];omega),?_⟩;revert h;refine sel_if ?_ ?_<;>intro h
                     ·refine ⟨v224.length,by first | exact List.length_map _ | rfl | (simp only [List.length_map];omega),?_⟩;exact join_end wk h
                     ·exact join_end wk h
                    ·rintro v244 h;obtain ⟨v246,g247,h⟩:=bind_inv h;have g247l:=sortF_len g247;refine ⟨_,_,some [],sortf157_ok (f:=Large.toD) (enters_of Tryd.func153 (by kernel_rfl) rfl) (fun h=>attribute_readLarge_1_ok h) g247,?_⟩;obtain ⟨v248,g249,h⟩:=bind_inv h;have g250:(List.map Large.toD v246).length=(List.map Large.toD v224).length:=(by first | rfl | (simp only [List.length_map,List.length_set];omega) | (simp only [List.length_map,List.length_set,List.length_append,List.length_take,List.length_drop,List.length_replicate];omega) | (simp only [List.length_map] at *;omega));refine ⟨_,_,some [174],(g250 ▸ slices_Compact_api_Large_api_Large_ok g249),?_⟩;exact join_end (.swap 174 154 rfl rfl rfl wk) h
                   ·rintro ⟨v241,v242⟩ h;revert h;refine cut_join (fun v251=>⟨dd 4 (AV.d (D.b v251)::dd 43 ([])),N::N::some (OB.box Attrs.zv)::nn 67 (some (OB.box Attrs.zv)::N::some (OB.box [AV.d (D.i v30),AV.own 106 (List.map Segment.toD v37).length,AV.d (D.b v31),AV.d (D.u64 v32),AV.d (D.u64 v33),AV.d (D.i v34),AV.d (D.i v35),AV.d (D.i v36),AV.own 105 (List.map Community.toD v38).length,AV.own 154 (List.map Large.toD v242).length,AV.d (D.nil 3)])::N::some (OB.box (Unknown.av x42))::nn 29 (some (OB.row 108 3 (List.map Large.toD v39) .no)::some (OB.row 106 2 (List.map Community.toD v38) .no)::some (OB.row 84 2 (List.map Segment.toD v37) .no)::nn 47 (some (OB.row 108 3 (List.map Large.toD v242) .no)::nn 79 ([]))))⟩) ?_ ?_
                    ·intro k252 h;revert h;refine sel_if ?_ ?_<;>intro h
                     ·refine ⟨rfl,?_⟩;obtain ⟨v253,g254,h⟩:=bind_inv h;refine ⟨_,_,none,community_ValidLarge_ok g254,?_⟩;exact join_end wk h
                     ·exact join_end wk h
                    ·rintro v251 h;exact join_end (.swap 154 104 rfl rfl rfl wk) h
                ·rintro ⟨v219,v220⟩ h;exact join_end wk h
              ·rintro ⟨v214,v215⟩ h;(conv=>whnf);refine .go ?_;revert h;refine sel_if ?_ ?_<;>intro h
               ·exact join_end wk h
               ·exact join_end wk h
             ·replace h:=ite_f g213 h;by_cases g255:(x42.Type_ == 35)=true
              ·replace h:=ite_t g255 h;refine ⟨_,(gget_miss g55 (gget_miss g68 (gget_miss g139 (gget_miss g154 (gget_miss g166 (gget_miss g178 (gget_miss g213 (gget_hit g255)))))))),_,rfl,_,rfl,?_⟩;revert h;refine cut_join (fun (v256,v257)=>⟨X::X::AV.ref 70 0::X::AV.ref 72 0::dd 5 (AV.d (D.l 3 Unknown.toD v1)::AV.d (D.i (v1.length:Int))::AV.d (D.i (i29:Int))::dd 22 (AV.d (D.b v256)::X::X::X::[])),N::N::some (OB.box Attrs.zv)::nn 67 (some (OB.box Attrs.zv)::N::some (OB.box [AV.d (D.i v30),AV.own 106 (List.map Segment.toD v37).length,AV.d (D.b v31),AV.d (D.u64 v32),AV.d (D.u64 v33),AV.d (D.i v34),AV.d (D.i v35),AV.d (D.i v257),AV.own 105 (List.map Community.toD v38).length,AV.own 104 (List.map Large.toD v39).length,AV.d (D.nil 3)])::nn 31 (some (OB.row 108 3 (List.map Large.toD v39) .no)::some (OB.row 106 2 (List.map Community.toD v38) .no)::some (OB.row 84 2 (List.map Segment.toD v37) .no)::nn 127 ([])))⟩) ?_ ?_
               ·intro k258 h;obtain ⟨v259,g260,h⟩:=bind_inv h;refine ⟨_,_,some [],attribute_right_ok g260,?_⟩;revert h;refine sel_if ?_ ?_<;>intro h
                ·exact join_end wk h
                ·revert h;refine cut_join (fun (v261,v262)=>⟨X::X::AV.ref 70 0::X::AV.ref 72 0::dd 5 (AV.d (D.l 3 Unknown.toD v1)::AV.d (D.i (v1.length:Int))::AV.d (D.i (i29:Int))::dd 11 (AV.d (D.b true)::X::X::X::AV.d (D.b false)::X::X::X::AV.d (D.b v261)::dd 6 ([]))),N::N::some (OB.box Attrs.zv)::nn 67 (some (OB.box Attrs.zv)::N::some (OB.box [AV.d (D.i v30),AV.own 106 (List.map Segment.toD v37).length,AV.d (D.b v31),AV.d (D.u64 v32),AV.d (D.u64 v33),AV.d (D.i v34),AV.d (D.i v35),AV.d (D.i v262),AV.own 105 (List.map Community.toD v38).length,AV.own 104 (List.map Large.toD v39).length,AV.d (D.nil 3)])::nn 31 (some (OB.row 108 3 (List.map Large.toD v39) .no)::some (OB.row 106 2 (List.map Community.toD v38) .no)::some (OB.row 84 2 (List.map Segment.toD v37) .no)::nn 127 ([])))⟩) ?_ ?_
                 ·intro k263 h;(conv=>whnf);refine inl Tryd.f145 107 (by kernel_rfl) (by kernel_rfl) ⟨rfl,?_⟩;revert h;refine cut_join (fun (v264,v265)=>⟨dd 4 (AV.d (D.b v264)::dd 12 ([])),N::N::some (OB.box Attrs.zv)::nn 67 (some (OB.box Attrs.zv)::N::some (OB.box [AV.d (D.i v30),AV.own 106 (List.map Segment.toD v37).length,AV.d (D.b v31),AV.d (D.u64 v32),AV.d (D.u64 v33),AV.d (D.i v34),AV.d (D.i v35),AV.d (D.i v265),AV.own 105 (List.map Community.toD v38).length,AV.own 104 (List.map Large.toD v39).length,AV.d (D.nil 3)])::N::some (OB.box (Unknown.av x42))::nn 29 (some (OB.row 108 3 (List.map Large.toD v39) .no)::some (OB.row 106 2 (List.map Community.toD v38) .no)::some (OB.row 84 2 (List.map Segment.toD v37) .no)::nn 127 ([])))⟩) ?_ ?_
                  ·intro k266 h;revert h;refine cut_join (fun v267=>⟨AV.ref 72 0::X::X::X::AV.d (D.b false)::dd 4 (AV.d (D.b ((x42.Data.length:Int) == 4))::dd 7 ([])),N::N::some (OB.box Attrs.zv)::nn 67 (some (OB.box Attrs.zv)::N::some (OB.box [AV.d (D.i v30),AV.own 106 (List.map Segment.toD v37).length,AV.d (D.b v31),AV.d (D.u64 v32),AV.d (D.u64 v33),AV.d (D.i v34),AV.d (D.i v35),AV.d (D.i v267),AV.own 105 (List.map Community.toD v38).length,AV.own 104 (List.map Large.toD v39).length,AV.d (D.nil 3)])::N::some (OB.box (Unknown.av x42))::nn 29 (some (OB.row 108 3 (List.map Large.toD v39) .no)::some (OB.row 106 2 (List.map Community.toD v38) .no)::some (OB.row 84 2 (List.map Segment.toD v37) .no)::nn 127 ([])))⟩) ?_ ?_
                   ·intro k268 h;(conv=>whnf);refine inl Tryd.f141 124 (by kernel_rfl) (by kernel_rfl) ⟨rfl,?_⟩;obtain ⟨v269,g270,h⟩:=bind_inv h;refine ⟨_,_,some [],attribute_get_ok g270,?_⟩;refine ⟨x42.Data.length,List.length_map _,?_⟩;exact join_end wk h
                   ·rintro v267 h;revert h;refine sel_if ?_ ?_<;>intro h
                    ·obtain ⟨v271,g272,h⟩:=bind_inv h;refine ⟨_,_,some [],aspath_Number_ok g272,?_⟩;exact join_end wk h
                    ·exact join_end wk h
                  ·rintro ⟨v264,v265⟩ h;exact join_end wk h
                 ·rintro ⟨v261,v262⟩ h;exact join_end wk h
               ·rintro ⟨v256,v257⟩ h;(conv=>whnf);refine .go ?_;revert h;refine sel_if ?_ ?_<;>intro h
                ·exact join_end wk h
                ·exact join_end wk h
              ·replace h:=ite_f g255 h;refine ⟨_,(gget_miss g55 (gget_miss g68 (gget_miss g139 (gget_miss g154 (gget_miss g166 (gget_miss g178 (gget_miss g213 (gget_miss g255 gget_nil)))))))),_,rfl,_,rfl,?_⟩;(conv=>whnf);refine .go ?_;(conv=>whnf);refine .go ?_;exact join_end wk h
      ·rintro ⟨v44,v45,v46,v47,v48,v49,v50,v51,v52,v53⟩ h;refine ⟨_,hwi29,?_⟩;exact hK43 _ _ wk h
    ·rintro ⟨v18,v19,v20,v21,v22,v23,v24,v25,v26,v27⟩ h;exact join_end (.swap 104 67 rfl rfl rfl (.swap 105 65 rfl rfl rfl (.swap 106 64 rfl rfl rfl wk))) h
  ·rintro ⟨v5,v6,v7,v8,v9,v10,v11,v12,v13,v14,v15⟩ h;(conv=>whnf);refine .go ?_;revert h;refine sel_if ?_ ?_<;>intro h
   ·cases h;exact ⟨rfl,rfl⟩
   ·refine ⟨v1.length,List.length_map _,?_⟩;revert h;refine cut_join (fun v273=>⟨X::X::AV.ref 2 0::X::AV.ref 4 0::dd 63 ([]),N::N::some (OB.box Attrs.zv)::N::some (OB.box [AV.d (D.i v5),AV.own 64 (List.map Segment.toD v13).length,AV.d (D.b v6),AV.d (D.u64 v7),AV.d (D.u64 v8),AV.d (D.i v9),AV.d (D.i v10),AV.d (D.i v11),AV.own 65 (List.map Community.toD v14).length,AV.own 67 (List.map Large.toD v15).length,AV.own 56 (List.map Unknown.toD v273).length])::nn 51 (some (OB.row 30 3 (List.map Unknown.toD v273) .no)::nn 7 (some (OB.row 84 2 (List.map Segment.toD v13) .no)::some (OB.row 106 2 (List.map Community.toD v14) .no)::N::some (OB.row 108 3 (List.map Large.toD v15) .no)::nn 166 ([])))⟩) ?_ ?_
    ·intro k274 h;revert h;refine loop_for 21 3 Unknown.toD rfl (fun i275 v276=>⟨X::X::AV.ref 2 0::X::AV.ref 4 0::dd 16 (AV.d (D.l 3 Unknown.toD v1)::AV.d (D.i (v1.length:Int))::AV.d (D.i (i275:Int))::dd 44 ([])),N::N::some (OB.box Attrs.zv)::N::some (OB.box [AV.d (D.i v5),AV.own 64 (List.map Segment.toD v13).length,AV.d (D.b v6),AV.d (D.u64 v7),AV.d (D.u64 v8),AV.d (D.i v9),AV.d (D.i v10),AV.d (D.i v11),AV.own 65 (List.map Community.toD v14).length,AV.own 67 (List.map Large.toD v15).length,AV.own 56 (List.map Unknown.toD v276).length])::nn 51 (some (OB.row 30 3 (List.map Unknown.toD v276) .no)::nn 7 (some (OB.row 84 2 (List.map Segment.toD v13) .no)::some (OB.row 106 2 (List.map Community.toD v14) .no)::N::some (OB.row 108 3 (List.map Large.toD v15) .no)::nn 166 ([])))⟩) ?_ ?_ ?_
     ·exact wk
     ·rintro v276 K277 h;(conv=>whnf);refine .go ?_;(conv=>whnf);refine sel_f lt_f ?_;exact join_end wk h
     ·rintro next278 i275 x279 v276 K277 hii275 hxi275 hwi275 h hK280;(conv=>whnf);refine .go ?_;(conv=>whnf);refine sel_t (lt_t hii275) ?_;(conv=>whnf);refine .go ?_;refine ⟨idx_b (f:=Unknown.toD) hii275,Unknown.toD x279,hxi275,rfl,?_⟩;revert h;refine cut_join (fun v281=>⟨X::X::AV.ref 2 0::X::AV.ref 4 0::X::X::AV.ref 7 0::dd 13 (AV.d (D.l 3 Unknown.toD v1)::AV.d (D.i (v1.length:Int))::AV.d (D.i (i275:Int))::dd 22 (AV.d (D.b v281)::dd 21 ([]))),N::N::some (OB.box Attrs.zv)::N::some (OB.box [AV.d (D.i v5),AV.own 64 (List.map Segment.toD v13).length,AV.d (D.b v6),AV.d (D.u64 v7),AV.d (D.u64 v8),AV.d (D.i v9),AV.d (D.i v10),AV.d (D.i v11),AV.own 65 (List.map Community.toD v14).length,AV.own 67 (List.map Large.toD v15).length,AV.own 56 (List.map Unknown.toD v276).length])::N::N::some (OB.box (Unknown.av x279))::nn 48 (some (OB.row 30 3 (List.map Unknown.toD v276) .no)::nn 7 (some (OB.row 84 2 (List.map Segment.toD v13) .no)::some (OB.row 106 2 (List.map Community.toD v14) .no)::N::some (OB.row 108 3 (List.map Large.toD v15) .no)::nn 166 ([])))⟩) ?_ ?_
      ·intro k282 h;obtain ⟨v283,g284,h⟩:=bind_inv h;refine ⟨_,_,some [],attribute_unknown_ok g284,?_⟩;revert h;refine sel_if ?_ ?_<;>intro h
       ·obtain ⟨v285,g286,h⟩:=bind_inv h;refine ⟨_,_,some [],attribute_within_ok g286,?_⟩;revert h;refine sel_if ?_ ?_<;>intro h
        ·refine ⟨_,rfl,?_⟩;revert h;refine sel_if ?_ ?_<;>intro h
         ·refine ⟨x279.Data.length,List.length_map _,?_⟩;exact join_end wk h
         ·exact join_end wk h
        ·exact join_end wk h
       ·exact join_end wk h
      ·rintro v281 h;revert h;refine cut_join (fun v287=>⟨X::X::AV.ref 2 0::X::AV.ref 4 0::dd 16 (AV.d (D.l 3 Unknown.toD v1)::AV.d (D.i (v1.length:Int))::AV.d (D.i (i275:Int))::dd 44 ([])),N::N::some (OB.box Attrs.zv)::N::some (OB.box [AV.d (D.i v5),AV.own 64 (List.map Segment.toD v13).length,AV.d (D.b v6),AV.d (D.u64 v7),AV.d (D.u64 v8),AV.d (D.i v9),AV.d (D.i v10),AV.d (D.i v11),AV.own 65 (List.map Community.toD v14).length,AV.own 67 (List.map Large.toD v15).length,AV.own 56 (List.map Unknown.toD v287).length])::nn 51 (some (OB.row 30 3 (List.map Unknown.toD v287) .no)::nn 7 (some (OB.row 84 2 (List.map Segment.toD v13) .no)::some (OB.row 106 2 (List.map Community.toD v14) .no)::N::some (OB.row 108 3 (List.map Large.toD v15) .no)::nn 166 ([])))⟩) ?_ ?_
       ·intro k288 h;revert h;refine sel_if ?_ ?_<;>intro h
        ·(conv=>whnf);refine .inl (dOB (by kernel_rfl) ?_);obtain ⟨v289,g290,h⟩:=bind_inv h;refine ⟨_,_,slices_Clone_byte_byte_ok g290,.inl rfl,?_⟩;refine ⟨rfl,?_⟩;obtain ⟨v291,g292,h⟩:=bind_inv h;refine ⟨rfl,apnd_b (f:=Unknown.toD) (g:=Unknown.toD) g292,_,apnd_z (f:=Unknown.toD) g292,?_⟩;(conv=>whnf);refine cOB (by kernel_rfl) ?_;exact join_end wk h
        ·exact join_end wk h
       ·rintro v287 h;refine ⟨_,hwi275,?_⟩;exact hK280 _ _ wk h
    ·rintro v273 h;refine ⟨v273.length,by first | exact List.length_map _ | rfl | (simp only [List.length_map];omega),?_⟩;(conv=>whnf);refine .go ?_;revert h;refine sel_if ?_ ?_<;>intro h
     ·cases h;exact ⟨rfl,rfl⟩
     ·obtain ⟨v293,g294,h⟩:=bind_inv h;have g294l:=sortF_len g294;refine ⟨_,_,some [],sortf39_ok (f:=Unknown.toD) (enters_of Tryd.func40 (by kernel_rfl) rfl) (fun h=>attribute_Read_2_ok h) g294,?_⟩;refine ⟨rfl,?_⟩;refine ⟨rfl,?_⟩;refine ⟨rfl,?_⟩;refine ⟨(by first | rfl | (simp only [List.length_map];omega) | (simp only [List.length_map,List.length_set,List.length_append,List.length_take,List.length_drop,List.length_replicate];omega)),?_⟩;cases h;exact ⟨rfl,rfl⟩
end Go.AX.Q18
end
section
namespace Go.AX.Q18
open Go Go.AX Go.Proofs
set_option maxRecDepth 100000
set_option maxHeartbeats 4000000
set_option linter.unusedVariables false
theorem ref18_first_ok {wl:Prop} {a0:List Unknown} {r:(List Unknown)} (h:ref18_first a0=some r):CallsOK (Wl wl) Tryd.prog 42 [AV.d (D.l 3 Unknown.toD a0)] [] (.d (D.l 3 Unknown.toD r)) []:=by
 refine ok Tryd.f42 (by kernel_rfl) (by kernel_rfl) ⟨rfl,?_⟩;unfold ref18_first at h;refine ⟨a0.length,List.length_map _,?_⟩;revert h;refine cut_join (fun v1=>⟨X::X::X::AV.own 3 (List.map Unknown.toD v1).length::dd 24 ([]),N::N::N::some (OB.row 30 3 (List.map Unknown.toD v1) .no)::nn 24 ([])⟩) ?_ ?_
 ·intro k2 h;revert h;refine loop_for 8 3 Unknown.toD rfl (fun i3 (v4,v5)=>⟨X::X::X::AV.own 3 (List.map Unknown.toD v4).length::AV.mp 7::X::X::X::AV.d (D.l 3 Unknown.toD a0)::AV.d (D.i (a0.length:Int))::AV.d (D.i (i3:Int))::dd 17 ([]),N::N::N::some (OB.row 30 3 (List.map Unknown.toD v4) .no)::N::N::N::some (OB.map 3 4 (entsD D.i D.b v5))::nn 20 ([])⟩) ?_ ?_ ?_
  ·exact wk
  ·rintro ⟨v4,v5⟩ K6 h;(conv=>whnf);refine .go ?_;(conv=>whnf);refine sel_f lt_f ?_;exact join_end wk h
  ·rintro next7 i3 x8 ⟨v4,v5⟩ K6 hii3 hxi3 hwi3 h hK9;(conv=>whnf);refine .go ?_;(conv=>whnf);refine sel_t (lt_t hii3) ?_;(conv=>whnf);refine .go ?_;refine ⟨idx_b (f:=Unknown.toD) hii3,Unknown.toD x8,hxi3,rfl,?_⟩;obtain ⟨v10,g11,h⟩:=bind_inv h;refine ⟨_,mapGet_ok (ek:=D.i) (ev:=D.b) (l:=v5) (k:=x8.Type_) keyEq_i,D.b v10,mget_dg (z:=false) rfl g11,_,rfl,?_⟩;revert h;refine cut_join (fun v12=>⟨X::X::X::AV.own 3 (List.map Unknown.toD v12).length::AV.mp 7::X::AV.ref 6 0::X::AV.d (D.l 3 Unknown.toD a0)::AV.d (D.i (a0.length:Int))::AV.d (D.i (i3:Int))::dd 17 ([]),N::N::N::some (OB.row 30 3 (List.map Unknown.toD v12) .no)::N::N::some (OB.box (Unknown.av x8))::some (OB.map 3 4 (entsD D.i D.b v5))::nn 20 ([])⟩) ?_ ?_
   ·intro k13 h;revert h;refine sel_if ?_ ?_<;>intro h
    ·refine ⟨rfl,?_⟩;obtain ⟨v14,g15,h⟩:=bind_inv h;refine ⟨rfl,apnd_b (f:=Unknown.toD) (g:=Unknown.toD) g15,_,apnd_z (f:=Unknown.toD) g15,?_⟩;exact join_end wk h
    ·exact join_end wk h
   ·rintro v12 h;refine ⟨_,mapSet_ok (ek:=D.i) (ev:=D.b) (l:=v5) (k:=x8.Type_) (v:=true) keyEq_i,?_⟩;refine ⟨_,hwi3,?_⟩;exact hK9 _ _ wk h
 ·rintro v1 h;(conv=>whnf);refine .inl ?_;(conv=>whnf);refine .inl ?_;refine ⟨rfl,?_⟩;cases h;exact ⟨rfl,rfl⟩
theorem ref18_number_ok {wl:Prop} {a0:List UInt8} {r:Int} (h:ref18_number a0=some r):CallsOK (Wl wl) Tryd.prog 80 [AV.d (D.l 1 D.u8 a0)] [] (.d (D.i r)) []:=by
 refine ok Tryd.f80 (by kernel_rfl) (by kernel_rfl) ⟨rfl,?_⟩;unfold ref18_number at h;refine ⟨a0.length,List.length_map _,?_⟩;revert h;refine cut_join (fun v1=>⟨X::X::X::AV.d (D.i v1)::dd 15 ([]),nn 19 ([])⟩) ?_ ?_
 ·intro k2 h;revert h;refine loop_for 6 1 D.u8 rfl (fun i3 v4=>⟨X::X::X::AV.d (D.i v4)::X::X::AV.d (D.l 1 D.u8 a0)::AV.d (D.i (a0.length:Int))::AV.d (D.i (i3:Int))::dd 10 ([]),nn 19 ([])⟩) ?_ ?_ ?_
  ·exact wk
  ·rintro v4 K5 h;(conv=>whnf);refine .go ?_;(conv=>whnf);refine sel_f lt_f ?_;exact join_end wk h
  ·rintro next6 i3 x7 v4 K5 hii3 hxi3 hwi3 h hK8;(conv=>whnf);refine .go ?_;(conv=>whnf);refine sel_t (lt_t hii3) ?_;(conv=>whnf);refine .go ?_;refine ⟨idx_b (f:=D.u8) hii3,D.u8 x7,hxi3,rfl,?_⟩;refine ⟨by decide,_,rfl,?_⟩;refine ⟨_,i64_of_u8 x7,?_⟩;refine ⟨_,rfl,?_⟩;refine ⟨_,hwi3,?_⟩;exact hK8 _ _ wk h
 ·rintro v1 h;cases h;exact ⟨rfl,rfl⟩
theorem ref18_sorted_ok {wl:Prop} {a0:List Int} {r:(List Int)} (h:ref18_sorted a0=some r):CallsOK (Wl wl) Tryd.prog 103 [AV.d (D.l 1 D.i a0)] [] (AV.own 0 (List.map D.i r).length) [.row 3 1 (List.map D.i r) .no]:=by
 refine ok Tryd.f103 (by kernel_rfl) (by kernel_rfl) ⟨rfl,?_⟩;unfold ref18_sorted at h;refine ⟨a0.length,List.length_map _,?_⟩;revert h;refine cut_join (fun v1=>⟨X::X::X::AV.own 3 (List.map D.i v1).length::dd 48 ([]),N::N::N::some (OB.row 3 1 (List.map D.i v1) .no)::nn 48 ([])⟩) ?_ ?_
 ·intro k2 h;revert h;refine loop_for 7 1 D.i rfl (fun i3 v4=>⟨X::X::X::AV.own 3 (List.map D.i v4).length::X::X::X::AV.d (D.l 1 D.i a0)::AV.d (D.i (a0.length:Int))::AV.d (D.i (i3:Int))::dd 42 ([]),N::N::N::some (OB.row 3 1 (List.map D.i v4) .no)::nn 48 ([])⟩) ?_ ?_ ?_
  ·exact wk
  ·rintro v4 K5 h;(conv=>whnf);refine .go ?_;(conv=>whnf);refine sel_f lt_f ?_;exact join_end wk h
  ·rintro next6 i3 x7 v4 K5 hii3 hxi3 hwi3 h hK8;(conv=>whnf);refine .go ?_;(conv=>whnf);refine sel_t (lt_t hii3) ?_;revert h;refine cut_join (fun v9=>⟨X::X::X::AV.own 3 (List.map D.i v9).length::X::X::X::AV.d (D.l 1 D.i a0)::AV.d (D.i (a0.length:Int))::AV.d (D.i (i3:Int))::dd 42 ([]),N::N::N::some (OB.row 3 1 (List.map D.i v9) .no)::nn 48 ([])⟩) ?_ ?_
   ·intro k10 h;refine ⟨idx_b (f:=D.i) hii3,D.i x7,hxi3,rfl,?_⟩;revert h;refine cut_join (fun v11=>⟨X::X::X::AV.own 3 (List.map D.i v4).length::X::AV.d (D.i x7)::AV.d (D.i v11)::AV.d (D.l 1 D.i a0)::AV.d (D.i (a0.length:Int))::AV.d (D.i (i3:Int))::dd 42 ([]),N::N::N::some (OB.row 3 1 (List.map D.i v4) .no)::nn 48 ([])⟩) ?_ ?_
    ·intro k12 h;revert h;refine loop_while (fun v13=>⟨X::X::X::AV.own 3 (List.map D.i v4).length::X::AV.d (D.i x7)::AV.d (D.i v13)::AV.d (D.l 1 D.i a0)::AV.d (D.i (a0.length:Int))::AV.d (D.i (i3:Int))::dd 42 ([]),N::N::N::some (OB.row 3 1 (List.map D.i v4) .no)::nn 48 ([])⟩) ?_ ?_
     ·exact wk
     rintro next14 v13 K15 h hK16;revert h;refine cut_join (fun v17=>⟨X::X::X::AV.own 3 (List.map D.i v4).length::X::AV.d (D.i x7)::AV.d (D.i v13)::AV.d (D.l 1 D.i a0)::AV.d (D.i (a0.length:Int))::AV.d (D.i (i3:Int))::dd 14 (AV.d (D.b v17)::dd 27 ([])),N::N::N::some (OB.row 3 1 (List.map D.i v4) .no)::nn 48 ([])⟩) ?_ ?_
     ·intro k18 h;refine ⟨v4.length,by first | exact List.length_map _ | rfl | (simp only [List.length_map];omega),?_⟩;revert h;refine sel_if ?_ ?_<;>intro h
      ·obtain ⟨v19,g20,h⟩:=bind_inv h;refine ⟨rfl,geti_b (f:=D.i) g20,?_⟩;refine ⟨rfl,D.i v19,(geti_d (f:=D.i) g20),?_⟩;exact join_end wk h
      ·exact join_end wk h
     ·rintro v17 h;(conv=>whnf);refine .go ?_;revert h;refine sel_if ?_ ?_<;>intro h
      ·(conv=>whnf);refine .go ?_;refine ⟨_,rfl,?_⟩;exact hK16 _ _ wk h
      ·exact join_end wk h
    ·rintro v11 h;revert h;refine cut_join (fun v21=>⟨X::X::X::AV.own 3 (List.map D.i v4).length::X::AV.d (D.i x7)::AV.d (D.i v11)::AV.d (D.l 1 D.i a0)::AV.d (D.i (a0.length:Int))::AV.d (D.i (i3:Int))::dd 28 (AV.d (D.b v21)::dd 13 ([])),N::N::N::some (OB.row 3 1 (List.map D.i v4) .no)::nn 48 ([])⟩) ?_ ?_
     ·intro k22 h;refine ⟨v4.length,by first | exact List.length_map _ | rfl | (simp only [List.length_map];omega),?_⟩;revert h;refine sel_if ?_ ?_<;>intro h
      ·obtain ⟨v23,g24,h⟩:=bind_inv h;refine ⟨rfl,geti_b (f:=D.i) g24,?_⟩;refine ⟨rfl,D.i v23,(geti_d (f:=D.i) g24),?_⟩;exact join_end wk h
      ·exact join_end wk h
     ·rintro v21 h;(conv=>whnf);refine .go ?_;revert h;refine sel_if ?_ ?_<;>intro h
      ·exact join_end wk h
      ·(conv=>whnf);refine .inl (dOB (by kernel_rfl) ?_);(conv=>whnf);refine .inr (.inl ?_);obtain ⟨_,g25,h⟩:=bind_inv h;have g57c:=chk_inv g25;refine ⟨view_b (f:=D.i) g25,rfl,(Int.toNat 0),(Int.toNat v11 - Int.toNat 0),rfl,rfl,?_⟩;refine ⟨(by first | rfl | (simp only [List.length_map,List.length_set];omega) | (simp only [List.length_map,List.length_set,List.length_append,List.length_take,List.length_drop,List.length_replicate];omega)),List.map D.i (List.take (Int.toNat v11 - Int.toNat 0) (List.drop (Int.toNat 0) v4)),view_z,?_⟩;obtain ⟨_,g26,h⟩:=bind_inv h;refine ⟨apnd_b0 (g:=D.i) g26,?_⟩;refine ⟨rfl,?_⟩;obtain ⟨v27,g28,h⟩:=bind_inv h;refine ⟨rfl,apnd_b (f:=D.i) (g:=D.i) g28,_,apnd_z (f:=D.i) g28,?_⟩;(conv=>whnf);refine .inr (.inl ?_);obtain ⟨_,g29,h⟩:=bind_inv h;have g63c:=chk_inv g29;refine ⟨view_b0 (f:=D.i) g29,rfl,(Int.toNat v11),(Int.toNat (v4.length:Int) - Int.toNat v11),rfl,(by rw [List.length_map]),?_⟩;refine ⟨(by first | rfl | (simp only [List.length_map,List.length_set];omega) | (simp only [List.length_map,List.length_set,List.length_append,List.length_take,List.length_drop,List.length_replicate];omega)),List.map D.i (List.take (Int.toNat (v4.length:Int) - Int.toNat v11) (List.drop (Int.toNat v11) v4)),view_z,?_⟩;obtain ⟨v30,g31,h⟩:=bind_inv h;refine ⟨rfl,apnd_b (f:=D.i) (g:=D.i) g31,_,apnd_z (f:=D.i) g31,?_⟩;(conv=>whnf);refine cOB (by kernel_rfl) ?_;exact join_end (.swap 42 3 rfl rfl rfl wk) h
   ·rintro v9 h;refine ⟨_,hwi3,?_⟩;exact hK8 _ _ wk h
 ·rintro v1 h;(conv=>whnf);refine .inl ?_;(conv=>whnf);refine .inr ?_;cases h;exact ⟨rfl,rfl⟩
theorem ref18_path_ok {wl:Prop} {a0:List UInt8} {r:(List Segment)×Bool} (h:ref18_path a0=some r):CallsOK (Wl wl) Tryd.prog 78 [AV.d (D.l 1 D.u8 a0)] [] (.tup [.d (D.l 2 Segment.toD r.1),.d (D.b r.2)]) []:=by
 refine ok Tryd.f78 (by kernel_rfl) (by kernel_rfl) ⟨rfl,?_⟩;unfold ref18_path at h;revert h;refine cut_join (fun (v1,v2,v3)=>⟨dd 4 (AV.own 4 (List.map Segment.toD v1).length::dd 113 ([])),nn 4 (some (OB.row 84 2 (List.map Segment.toD v1) (.lk v2 1 116 (List.map D.i v3).length))::nn 111 (some (OB.row 3 1 (List.map D.i v3) .yes)::N::[]))⟩) ?_ ?_
 ·intro k4 h;revert h;refine loop_while (fun (v5,v6,v7,v8)=>⟨AV.d (D.l 1 D.u8 v5)::X::X::X::AV.own 4 (List.map Segment.toD v6).length::dd 113 ([]),nn 4 (some (OB.row 84 2 (List.map Segment.toD v6) (.lk v7 1 116 (List.map D.i v8).length))::nn 111 (some (OB.row 3 1 (List.map D.i v8) .yes)::N::[]))⟩) ?_ ?_
  ·exact wk
  rintro next9 ⟨v5,v6,v7,v8⟩ K10 h hK11;refine ⟨v5.length,List.length_map _,?_⟩;(conv=>whnf);refine .go ?_;revert h;refine sel_if ?_ ?_<;>intro h
  ·revert h;refine cut_join (fun (v12,v13,v14,v15)=>⟨AV.d (D.l 1 D.u8 v12)::X::X::X::AV.own 4 (List.map Segment.toD v13).length::dd 113 ([]),nn 4 (some (OB.row 84 2 (List.map Segment.toD v13) (.lk v14 1 116 (List.map D.i v15).length))::nn 111 (some (OB.row 3 1 (List.map D.i v15) .yes)::N::[]))⟩) ?_ ?_
   ·intro k16 h;revert h;refine cut_join (fun v17=>⟨AV.d (D.l 1 D.u8 v5)::X::X::X::AV.own 4 (List.map Segment.toD v6).length::dd 36 (AV.d (D.b v17)::dd 76 ([])),nn 4 (some (OB.row 84 2 (List.map Segment.toD v6) (.lk v7 1 116 (List.map D.i v8).length))::nn 111 (some (OB.row 3 1 (List.map D.i v8) .yes)::N::[]))⟩) ?_ ?_
    ·intro k18 h;refine ⟨v5.length,List.length_map _,?_⟩;revert h;refine sel_if ?_ ?_<;>intro h
     ·exact join_end wk h
     ·obtain ⟨v19,g20,h⟩:=bind_inv h;refine ⟨geti_b (f:=D.u8) g20,D.u8 v19,geti_d (f:=D.u8) g20,rfl,?_⟩;revert h;refine sel_if ?_ ?_<;>intro h
      ·obtain ⟨v21,g22,h⟩:=bind_inv h;refine ⟨geti_b (f:=D.u8) g22,D.u8 v21,geti_d (f:=D.u8) g22,rfl,?_⟩;revert h;refine sel_if ?_ ?_<;>intro h
       ·exact join_end wk h
       ·obtain ⟨v23,g24,h⟩:=bind_inv h;refine ⟨geti_b (f:=D.u8) g24,D.u8 v23,geti_d (f:=D.u8) g24,rfl,?_⟩;revert h;refine sel_if ?_ ?_<;>intro h
        ·exact join_end wk h
        ·refine ⟨v5.length,List.length_map _,?_⟩;obtain ⟨v25,g26,h⟩:=bind_inv h;refine ⟨geti_b (f:=D.u8) g26,D.u8 v25,geti_d (f:=D.u8) g26,rfl,?_⟩;refine ⟨_,i64_of_u8 v25,?_⟩;refine ⟨_,rfl,?_⟩;refine ⟨_,rfl,?_⟩;exact join_end wk h
      ·obtain ⟨v27,g28,h⟩:=bind_inv h;refine ⟨geti_b (f:=D.u8) g28,D.u8 v27,geti_d (f:=D.u8) g28,rfl,?_⟩;revert h;refine sel_if ?_ ?_<;>intro h
       ·exact join_end wk h
       ·refine ⟨v5.length,List.length_map _,?_⟩;obtain ⟨v29,g30,h⟩:=bind_inv h;refine ⟨geti_b (f:=D.u8) g30,D.u8 v29,geti_d (f:=D.u8) g30,rfl,?_⟩;refine ⟨_,i64_of_u8 v29,?_⟩;refine ⟨_,rfl,?_⟩;refine ⟨_,rfl,?_⟩;exact join_end wk h
    ·rintro v17 h;(conv=>whnf);refine .go ?_;revert h;refine sel_if ?_ ?_<;>intro h
     ·(conv=>whnf);refine .inl ?_;refine ⟨rfl,?_⟩;cases h;exact ⟨rfl,rfl⟩
     ·obtain ⟨v31,g32,h⟩:=bind_inv h;refine ⟨geti_b (f:=D.u8) g32,D.u8 v31,geti_d (f:=D.u8) g32,rfl,?_⟩;refine ⟨_,i64_of_u8 v31,?_⟩;revert h;refine cut_join (fun v33=>⟨AV.d (D.l 1 D.u8 v5)::X::X::X::AV.own 4 (List.map Segment.toD v6).length::AV.own 5 (List.map D.i v33).length::dd 112 ([]),nn 4 (some (OB.row 84 2 (List.map Segment.toD v6) (.lk v7 1 116 (List.map D.i v8).length))::some (OB.row 3 1 (List.map D.i v33) .no)::nn 110 (some (OB.row 3 1 (List.map D.i v8) .yes)::N::[]))⟩) ?_ ?_
      ·intro k34 h;revert h;refine loop_while (fun (v35,v36)=>⟨AV.d (D.l 1 D.u8 v5)::X::X::X::AV.own 4 (List.map Segment.toD v6).length::AV.own 5 (List.map D.i v36).length::dd 39 (AV.d (D.i (v31.toNat:Int))::AV.d (D.i v35)::dd 71 ([])),nn 4 (some (OB.row 84 2 (List.map Segment.toD v6) (.lk v7 1 116 (List.map D.i v8).length))::some (OB.row 3 1 (List.map D.i v36) .no)::nn 110 (some (OB.row 3 1 (List.map D.i v8) .yes)::N::[]))⟩) ?_ ?_
       ·exact wk
       rintro next37 ⟨v35,v36⟩ K38 h hK39;(conv=>whnf);refine .go ?_;revert h;refine sel_if ?_ ?_<;>intro h
       ·(conv=>whnf);refine .go ?_;refine ⟨_,rfl,?_⟩;refine ⟨_,rfl,?_⟩;refine ⟨_,rfl,?_⟩;refine ⟨_,rfl,?_⟩;obtain ⟨v40,g41,h⟩:=bind_inv h;refine ⟨part_b (f:=D.u8) g41,_,part_z (f:=D.u8) g41,?_⟩;obtain ⟨v42,g43,h⟩:=bind_inv h;refine ⟨_,_,some [],ref18_number_ok g43,?_⟩;refine ⟨rfl,?_⟩;obtain ⟨v44,g45,h⟩:=bind_inv h;refine ⟨rfl,apnd_b (f:=D.i) (g:=D.i) g45,_,apnd_z (f:=D.i) g45,?_⟩;refine ⟨_,rfl,?_⟩;exact hK39 _ _ wk h
       ·exact join_end wk h
      ·rintro v33 h;(conv=>whnf);refine .go ?_;obtain ⟨v46,g47,h⟩:=bind_inv h;refine ⟨geti_b (f:=D.u8) g47,D.u8 v46,geti_d (f:=D.u8) g47,rfl,?_⟩;revert h;refine cut_join (fun (v48,v49,v50)=>⟨AV.d (D.l 1 D.u8 v5)::X::X::X::AV.own 4 (List.map Segment.toD v48).length::dd 113 ([]),nn 4 (some (OB.row 84 2 (List.map Segment.toD v48) (.lk v49 1 116 (List.map D.i v50).length))::nn 111 (some (OB.row 3 1 (List.map D.i v50) .yes)::N::[]))⟩) ?_ ?_
       ·intro k51 h;revert h;refine sel_if ?_ ?_<;>intro h
        ·refine ⟨rfl,?_⟩;obtain ⟨v52,g53,h⟩:=bind_inv h;refine ⟨_,_,some [74],ref18_sorted_ok g53,?_⟩;(conv=>whnf);refine .inr (.inr ?_);refine ⟨1,74,_,rfl,?_⟩;refine ⟨rfl,?_⟩;refine ⟨rfl,?_⟩;obtain ⟨v54,g55,h⟩:=bind_inv h;refine ⟨rfl,apnd_b (f:=Segment.toD) (g:=Segment.toD) g55,_,apnd_z (f:=Segment.toD) g55,?_⟩;refine ⟨rfl,?_⟩;exact join_end (.swap 74 116 rfl rfl rfl wk) h
        ·revert h;refine cut_join (fun v56=>⟨AV.d (D.l 1 D.u8 v5)::X::X::X::AV.own 4 (List.map Segment.toD v6).length::AV.own 5 (List.map D.i v33).length::dd 72 (AV.d (D.b v56)::dd 39 ([])),nn 4 (some (OB.row 84 2 (List.map Segment.toD v6) (.lk v7 1 116 (List.map D.i v8).length))::some (OB.row 3 1 (List.map D.i v33) .no)::nn 110 (some (OB.row 3 1 (List.map D.i v8) .yes)::N::[]))⟩) ?_ ?_
         ·intro k57 h;refine ⟨v6.length,by first | exact List.length_map _ | rfl | (simp only [List.length_map];omega),?_⟩;revert h;refine sel_if ?_ ?_<;>intro h
          ·refine ⟨v6.length,by first | exact List.length_map _ | rfl | (simp only [List.length_map];omega),?_⟩;refine ⟨_,rfl,?_⟩;obtain ⟨v58,g59,h⟩:=bind_inv h;refine ⟨rfl,geti_b (f:=Segment.toD) g59,?_⟩;refine ⟨rfl,?_⟩;(conv=>whnf);refine .inl ?_;refine ⟨rfl,Segment.toD v58,(geti_d (f:=Segment.toD) g59),?_⟩;exact join_end wk h
          ·exact join_end wk h
         ·rintro v56 h;revert h;refine cut_join (fun (v60,v61,v62)=>⟨AV.d (D.l 1 D.u8 v5)::X::X::X::AV.own 4 (List.map Segment.toD v60).length::dd 113 ([]),nn 4 (some (OB.row 84 2 (List.map Segment.toD v60) (.lk v61 1 116 (List.map D.i v62).length))::nn 111 (some (OB.row 3 1 (List.map D.i v62) .yes)::N::[]))⟩) ?_ ?_
          ·intro k63 h;revert h;refine sel_if ?_ ?_<;>intro h
           ·refine ⟨v6.length,by first | exact List.length_map _ | rfl | (simp only [List.length_map];omega),?_⟩;refine ⟨_,rfl,?_⟩;refine ⟨v6.length,by first | exact List.length_map _ | rfl | (simp only [List.length_map];omega),?_⟩;refine ⟨_,rfl,?_⟩;obtain ⟨v64,g65,h⟩:=bind_inv h;refine ⟨rfl,geti_b (f:=Segment.toD) g65,?_⟩;refine ⟨rfl,?_⟩;obtain ⟨_,g66,h⟩:=bind_inv h;refine .inr ⟨rfl,chk_inv g66,rfl,(geti_lt (f:=Segment.toD) g65),by decide,rfl,?_⟩;refine ⟨rfl,?_⟩;obtain ⟨v67,g68,h⟩:=bind_inv h;refine ⟨rfl,apnd_b (f:=D.i) (g:=D.i) g68,_,apnd_z (f:=D.i) g68,?_⟩;obtain ⟨v69,g70,h⟩:=bind_inv h;refine ⟨rfl,geti_b (f:=Segment.toD) g70,?_⟩;refine ⟨rfl,?_⟩;obtain ⟨v71,g72,h⟩:=bind_inv h;have g72l:=seti_len g72;refine .inr ?_;refine ⟨rfl,?_⟩;refine ⟨rfl,rfl,Segment.toD v69,(geti_d (f:=Segment.toD) g70),?_⟩;refine ⟨_,seti_z (f:=Segment.toD) g72,?_⟩;exact join_end wk h
           ·(conv=>whnf);refine .inr (.inr ?_);refine ⟨1,5,_,rfl,?_⟩;refine ⟨rfl,?_⟩;refine ⟨rfl,?_⟩;obtain ⟨v73,g74,h⟩:=bind_inv h;refine ⟨rfl,apnd_b (f:=Segment.toD) (g:=Segment.toD) g74,_,apnd_z (f:=Segment.toD) g74,?_⟩;refine ⟨rfl,?_⟩;exact join_end (.swap 5 116 rfl rfl rfl wk) h
          ·rintro ⟨v60,v61,v62⟩ h;exact join_end wk h
       ·rintro ⟨v48,v49,v50⟩ h;obtain ⟨v75,g76,h⟩:=bind_inv h;refine ⟨geti_b (f:=D.u8) g76,D.u8 v75,geti_d (f:=D.u8) g76,rfl,?_⟩;refine ⟨_,i64_of_u8 v75,?_⟩;refine ⟨_,rfl,?_⟩;refine ⟨_,rfl,?_⟩;obtain ⟨v77,g78,h⟩:=bind_inv h;refine ⟨part_b0 (f:=D.u8) g78,_,part_z0 (f:=D.u8) g78,?_⟩;exact join_end wk h
   ·rintro ⟨v12,v13,v14,v15⟩ h;exact hK11 _ _ wk h
  ·exact join_end wk h
 ·rintro ⟨v1,v2,v3⟩ h;refine ⟨rfl,?_⟩;obtain ⟨v79,g80,h⟩:=bind_inv h;refine ⟨_,_,none,ref15_Valid_ok g80,?_⟩;(conv=>whnf);refine .inl ?_;refine ⟨rfl,?_⟩;cases h;exact ⟨rfl,rfl⟩
theorem ref01_FromBytes_ok {wl:Prop} {a0:List UInt8} {r:Addr×Int} (h:ref01_FromBytes a0=some r):CallsOK (Wl wl) Tryd.prog 79 [AV.d (D.l 1 D.u8 a0)] [] (.tup [.d (Addr.toD r.1),.d (D.i r.2)]) []:=by
 refine ok Tryd.f79 (by kernel_rfl) (by kernel_rfl) ⟨rfl,?_⟩;unfold ref01_FromBytes at h;revert h;refine cut_join (fun v1=>⟨AV.d (D.l 1 D.u8 a0)::X::AV.ref 2 0::dd 11 (AV.d (D.b v1)::dd 28 ([])),N::N::some (OB.box Addr.zv)::nn 40 ([])⟩) ?_ ?_
 ·intro k2 h;refine ⟨a0.length,List.length_map _,?_⟩;revert h;refine sel_if ?_ ?_<;>intro h
  ·refine ⟨a0.length,List.length_map _,?_⟩;exact join_end wk h
  ·exact join_end wk h
 ·rintro v1 h;(conv=>whnf);refine .go ?_;revert h;refine sel_if ?_ ?_<;>intro h
  ·cases h;exact ⟨rfl,rfl⟩
  ·refine ⟨a0.length,List.length_map _,?_⟩;refine ⟨a0.length,List.length_map _,?_⟩;revert h;refine cut_join (fun v3=>⟨X::X::AV.ref 2 0::X::AV.ref 4 0::dd 38 ([]),N::N::some (OB.box Addr.zv)::N::some (OB.box (Addr.av v3))::nn 38 ([])⟩) ?_ ?_
   ·intro k4 h;revert h;refine loop_for 20 1 D.u8 rfl (fun i5 v6=>⟨X::X::AV.ref 2 0::X::AV.ref 4 0::dd 15 (AV.d (D.l 1 D.u8 a0)::AV.d (D.i (a0.length:Int))::AV.d (D.i (i5:Int))::dd 20 ([])),N::N::some (OB.box Addr.zv)::N::some (OB.box (Addr.av v6))::nn 38 ([])⟩) ?_ ?_ ?_
    ·exact wk
    ·rintro v6 K7 h;(conv=>whnf);refine .go ?_;(conv=>whnf);refine sel_f lt_f ?_;exact join_end wk h
    ·rintro next8 i5 x9 v6 K7 hii5 hxi5 hwi5 h hK10;(conv=>whnf);refine .go ?_;(conv=>whnf);refine sel_t (lt_t hii5) ?_;(conv=>whnf);refine .go ?_;refine ⟨idx_b (f:=D.u8) hii5,D.u8 x9,hxi5,rfl,?_⟩;refine ⟨by decide,_,u64_wrap _,?_⟩;refine ⟨by decide,_,u64_shr v6.Lo _,?_⟩;refine ⟨_,u64_wrap _,?_⟩;refine ⟨by decide,_,u64_wrap _,?_⟩;refine ⟨_,u64_wrap _,?_⟩;refine ⟨_,u64_wrap _,?_⟩;refine ⟨_,hwi5,?_⟩;exact hK10 _ _ wk h
   ·rintro v3 h;cases h;exact ⟨rfl,rfl⟩
end Go.AX.Q18
end
section
namespace Go.AX.Q18
open Go Go.AX Go.Proofs
set_option maxRecDepth 100000
set_option maxHeartbeats 4000000
set_option linter.unusedVariables false
end Go.AX.Q18
end
