/-
  Texts of one proof, packed.
-/
import Derived.Test.YtbohbnpaadcfmaaGreatDoorKB2
import Derived.Deep.LoopGhost
set_option linter.all false
set_option maxRecDepth 100000
set_option maxHeartbeats 4000000
open List renaming length_map→X10,length_append→X11,mem_singleton→X14,getElem?_eq_getElem→X15,getElem?_eq_some_iff→X16,mem_cons_of_mem→X19,length_set→X21,length_singleton→X22,mem_append→X23
open Option.some renaming injEq→X24,inj→X25
open Prod.mk renaming injEq→X26
open Bool renaming and_eq_true→X27
open Nat renaming le_of_ble_eq_true→X29,eq_of_beq_eq_true→X30,mul_le_mul_right→X31,add_mul→X32
section
namespace Go.AX
def obf (obl:List (Option OB)):Nat->Option OB:=fun r=>obl.getD r none
structure R (E:Env)(st:ASt)(a:Act)(w:World)(S:Sc)(φ:Nat->Option (Nat×Rp)):Prop where
 sz:a.tmps.size=st.tm.length
 tm :∀i (hi:i<st.tm.length),RepA S w φ (obf st.ob) st.tm[i] (a.tmps.getD i undef)/\Closed (obf st.ob) st.tm[i]
 df:a.defers=[]
 mem:Mem E w S φ (obf st.ob)
structure Trk where
 np:Nat
 φ0:Nat->Option (Nat×Rp)
 ob0:Nat->Option OB
def Trk.ok (tr:Trk)(φ:Nat->Option (Nat×Rp))(ob:Nat->Option OB):Prop:=∀r,r<tr.np->tr.ob0 r≠none->ob r≠none/\RefOK tr.φ0 tr.ob0 φ ob r
def RR (E:Env)(tr:Trk)(st:ASt)(a:Act)(w:World):Prop:=∃S φ,R E st a w S φ/\tr.ok φ (obf st.ob)
theorem Trk.ok.kept {tr:Trk}{w w':World}{S S':Sc}{φ φ':Nat->Option (Nat×Rp)}{ob ob':Nat->Option OB}(h:tr.ok φ ob)(k:Kept w S φ ob w' S' φ' ob'):tr.ok φ' ob':=
 fun r hr h0=>⟨k.c r (h r hr h0).1,(h r hr h0).2.trans (k.r r (h r hr h0).1)⟩
section
variable {P:Program} {E:Env} {tr:Trk} {w:World} {S:Sc} {φ:Nat->Option (Nat×Rp)}
theorem R.av {st:ASt}{a:Act}(h:R E st a w S φ)(x:Operand):RepA S w φ (obf st.ob) (evO st.tm x) (a.eval x)/\Closed (obf st.ob) (evO st.tm x):=by
 cases x with
 | tmp t=>
  simp only[evO,Act.eval]
  by_cases ht:t<st.tm.length
  ·have:=h.tm t ht
   have e:st.tm.getD t .dead=st.tm[t]:=by simp[ht]
   rw[e];exact this
  have e:st.tm.getD t .dead=.dead:=by simp[Nat.le_of_not_lt ht]
  rw[e];exact⟨.dead _,GK _⟩
 | const v=>
  simp only[evO,Act.eval]
  split
  ·rename_i hv;exact⟨.d _ _ (.val v hv),BC _ _⟩
  exact⟨.dead _,GK _⟩
 | global g=>exact⟨.gl g,fun r hr=>by simp[evO,AV.refs] at hr⟩
 | func f=>exact⟨.fn f [] #[] (fun _=>undef) rfl (fun i hi=>by simp at hi) (fun i hi=>by simp at hi),fun r hr=>by simp[evO,AV.refs,AV.refs.refsL] at hr⟩
def wrL:List (Option OB)->W->List (Option OB)
 | ob,[]=>ob
 | ob,(r,o)::w=>wrL (ob.set r (some o)) w
theorem QE (ob:List (Option OB))(wr:W)(K:List (Option OB)->Prop):wrK ob wr K↔K (wrL ob wr):=by
 induction wr generalizing ob with
 | nil=>rfl
 | cons x wr ih=>obtain⟨r,o⟩:=x;simp[wrK,wrL,GN,ih]
theorem YP (ob:List (Option OB))(wr:W)(h :∀r o,(r,o)∈wr->r<ob.length):obf (wrL ob wr)=Ar (obf ob) wr:=by
 induction wr generalizing ob with
 | nil=>rfl
 | cons x wr ih=>
  obtain⟨r,o⟩:=x
  simp only[wrL,Ar]
  rw[ih (ob.set r (some o)) fun r' o' hm=>by simpa using h r' o' (by simp[hm])]
  congr 1
  exact cX ob r o (h r o (by simp))
def J3 (tm:List AV)(dst:Option Nat)(v:AV):List AV:=match dst with
 | some d=>tm.set d v
 | none=>tm
theorem HC (tm:List AV)(dst:Option Nat)(v:AV)(K:List AV->Prop):Lc tm dst v K↔K (J3 tm dst v):=by
 cases dst<;>simp[Lc,J3,GN]
theorem LE (tm:List AV)(dst:Option Nat)(v:AV):(J3 tm dst v).length=tm.length:=by
 cases dst<;>simp[J3]
theorem Z6 (tm:List AV)(dst:Option Nat)(v:AV)(i:Nat)(hi:i<tm.length):(J3 tm dst v)[i]?=some (if dst=some i then v else tm[i]):=by
 cases dst with
 | none=>simp[J3,hi]
 | some d=>
  simp only[J3,List.getElem?_set,X24]
  by_cases h:d=i
  ·simp[h,hi]
  simp[h,hi]
theorem cH (a:Act)(dst:Option Nat)(v:Value)(i:Nat)(hi:i<a.tmps.size):(a.put dst v).tmps.getD i undef=if dst=some i then v else a.tmps.getD i undef:=by
 cases dst with
 | none=>simp[Act.put]
 | some d=>
  simp only[Act.put,X24]
  by_cases h:d=i
  ·subst h;simp[hi]
  simp[h,Array.getElem?_setIfInBounds_ne]
theorem R.put {st:ASt}{a:Act}(h:R E st a w S φ){w':World}{S':Sc}{φ':Nat->Option (Nat×Rp)}{ob':List (Option OB)}{dst:Option Nat}{out:AV}{v:Value}(m:Mem E w' S' φ' (obf ob'))(k:Kept w S φ (obf st.ob) w' S' φ' (obf ob'))
  (hv:RepA S' w' φ' (obf ob') out v) (hc:Closed (obf ob') out):R E ⟨J3 st.tm dst out,ob'⟩ (a.put dst v) w' S' φ':=by
 refine⟨?_,fun i hi=>?_,?_,m⟩
 ·rw[LE,<- h.sz];cases dst<;>simp[Act.put]
 ·simp only[LE] at hi
  have e1:=Z6 st.tm dst out i hi
  have e2:=cH a dst v i (by rw[h.sz];exact hi)
  have hi':i<(J3 st.tm dst out).length:=by rw[LE];exact hi
  rw[X15 hi'] at e1
  have e1:=X25 e1
  simp only[e1,e2]
  split
  ·exact⟨hv,hc⟩
  exact⟨k.rep (h.tm i hi).2 (h.tm i hi).1,k.closed (h.tm i hi).2⟩
 rw[<- h.df];cases dst<;>rfl
theorem Ku {o:Oper}{a:Act}{Q:Value->World->Prop}{next:Act->World->Prop}{Qx:Exit->Act->World->Prop}(h:RunOK P o a.eval w Q)(hn :∀v w',Q v w'->next (a.put o.dst v) w'):o.wp P a w next Qx:=by
 unfold Oper.wp
 unfold RunOK at h
 generalize (execOp a.eval o).run P w=r at *
 cases r with
 | ok x w'=>
  cases x<;>simp only[Oper.upon] at h ⊢
  case value v=>exact hn _ _ h
  case skip=>exact hn _ _ h
  case enter f args=>
   refine h.mono ?_
   rintro e w'' ⟨v,rfl,hq⟩
   exact hn _ _ hq
  all_goals exact h.elim
 | halt x w'=>exact h.elim
theorem R.known {st:ASt}{a:Act}(h:R E st a w S φ){t:Nat}{b c:Bool}(hb:st.tm.getD t .dead=.b b)(hc:b=c):R E ⟨st.tm.set t (.b c),st.ob⟩ a w S φ:=by
 subst hc
 have ht:t<st.tm.length:=by
  refine Nat.lt_of_not_le fun hge=>?_
  simp[hge] at hb
 have e:st.tm.set t (.b b)=st.tm:=by
  have:st.tm[t]=.b b:=by simpa[ht] using hb
  rw[<- this];exact List.set_getElem_self ht
 rw[e];exact h
theorem NX {ops:Array Oper}{o:Oper}{a:Act}{K:ASt->Prop}{Q:Exit->Act->World->Prop}{next:Act->World->Prop}{st:ASt}{Y:List AV->Prop}
  (yes :∀tm:List AV,RR E tr ⟨tm,st.ob⟩ a w->Y tm->o.wp P a w next Q)
  (h:JD ops o st.tm Y (fun tm=>Lc tm o.dst (.tup []) fun tm=>K ⟨tm,st.ob⟩)) (hR:RR E tr st a w) (hn :∀st' a' w',K st'->RR E tr st' a' w'->next a' w') :
  if Region.wanted o (yielded ops a.tmps) then o.wp P a w next Q else next (a.put o.dst undef) w:=by
 obtain⟨S,φ,hR,htr⟩:=hR
 obtain⟨tm,ob⟩:=st
 simp only at h yes
 have yes :∀{tm:List AV},R E ⟨tm,ob⟩ a w S φ->Y tm->o.wp P a w next Q:=fun hR h=>yes _ ⟨S,φ,hR,htr⟩ h
 have no :∀{tm:List AV},R E ⟨tm,ob⟩ a w S φ->Lc tm o.dst (.tup []) (fun tm=>K ⟨tm,ob⟩)->next (a.put o.dst undef) w:=by
  intro tm hR h
  rw[HC] at h
  exact hn _ _ _ h ⟨S,φ,hR.put hR.mem (.refl _ _ _ _) (.tup [] #[] (fun _=>undef) rfl (fun i hi=>by simp at hi) (fun i hi=>by simp at hi)) (fun r hr=>by simp[AV.refs,AV.refs.refsL] at hr),htr⟩
 unfold JD at h
 cases hg:o.guard with
 | none=>
  simp only[hg] at h
  have hw:Region.wanted o (yielded ops a.tmps)=true:=by unfold Region.wanted;rw[hg]
  simp only[hw,if_true]
  exact yes hR h
 | some g=>
  obtain⟨j,want⟩:=g
  simp only[hg] at h
  cases hd:(ops[j]?).bind (·.dst) with
  | none=>simp[hd] at h
  | some t=>
   simp only[hd] at h
   split at h
   ·rename_i b hb
    have hb0:=hb
    have ht:t<tm.length:=by
     refine Nat.lt_of_not_le fun hge=>?_
     simp[hge] at hb
    have hrep:=(hR.tm t ht).1
    have e:tm.getD t .dead=tm[t]:=by simp[ht]
    rw[e] at hb
    simp only at hrep
    rw[hb] at hrep
    have hval:=hrep.bool
    have hts:t<a.tmps.size:=by rw[hR.sz];exact ht
    have hy:yielded ops a.tmps j=some b:=by
     unfold yielded
     rw[hd]
     have:a.tmps[t]?=some (.bool b):=by
      simp[hts] at hval ⊢
      exact hval
     simp[this]
    have hw:Region.wanted o (yielded ops a.tmps)=(b==want):=by
     unfold Region.wanted;rw[hg];simp only[hy];cases b<;>cases want<;>rfl
    simp only[hw]
    cases b<;>cases want<;>simp only[N4,GN] at h<;>simp
    ·exact yes (hR.known hb0 rfl) h
    ·exact no (hR.known hb0 rfl) h
    ·exact no (hR.known hb0 rfl) h
    exact yes (hR.known hb0 rfl) h
   ·rename_i vs hb
    have ht:t<tm.length:=by
     refine Nat.lt_of_not_le fun hge=>?_
     simp[hge] at hb
    have hrep:=(hR.tm t ht).1
    have e:tm.getD t .dead=tm[t]:=by simp[ht]
    rw[e] at hb
    simp only at hrep
    rw[hb] at hrep
    have hts:t<a.tmps.size:=by rw[hR.sz];exact ht
    have hy:yielded ops a.tmps j=none:=by
     unfold yielded
     rw[hd]
     generalize hv:a.tmps.getD t undef=v at hrep
     cases hrep with | tup _ us _ _ _ _=>
     have:a.tmps[t]?=some (.tuple us):=by
      simp[hts] at hv ⊢
      exact hv
     simp[this]
    have hw:Region.wanted o (yielded ops a.tmps)=false:=by
     unfold Region.wanted;rw[hg];simp only[hy];rfl
    simp only[hw]
    simpa using no hR h
   exact h.elim
theorem Vm {ops:Array Oper}{o:Oper}{F:(Operand->AV)->List (Option OB)->(AV->W->Prop)->Prop}
  (hF :∀{w:World} {S:Sc} {φ:Nat->Option (Nat×Rp)} {obl:List (Option OB)} {av:Operand->AV} {ρ:Operand->Value} {K:AV->W->Prop} (_:Mem E w S φ (fun r=>obl.getD r none)) (_ :∀x,RepA S w φ (fun r=>obl.getD r none) (av x) (ρ x)/\Closed (fun r=>obl.getD r none) (av x)) (_:F av obl K),
   ∃out wr,K out wr/\(∀r o,(r,o)∈wr->r<obl.length)/\RunOK P o ρ w (Post E w S φ (fun r=>obl.getD r none) out wr))
  {st:ASt} {a:Act} {K:ASt->Prop} {Q:Exit->Act->World->Prop}
  (h:stepG ops o F st K) (hR:RR E tr st a w) {next:Act->World->Prop} (hn :∀st' a' w',K st'->RR E tr st' a' w'->next a' w') :
  if Region.wanted o (yielded ops a.tmps) then o.wp P a w next Q else next (a.put o.dst undef) w:=by
 obtain⟨tm0,ob⟩:=st
 refine NX (Y:=fun tm=>F (evO tm) ob (fun v w=>Lc tm o.dst v fun tm=>wrK ob w fun ob=>K ⟨tm,ob⟩)) (fun tm hR h=>?_) (st:=⟨tm0,ob⟩) h hR hn
 simp only at hR
 obtain⟨S,φ,hR,htr⟩:=hR
 obtain⟨out,wr,hK,hr,hrun⟩:=hF hR.mem (ρ:=a.eval) (fun x=>hR.av x) h
 rw[HC,QE] at hK
 refine Ku hrun fun v w' hp=>hn _ _ _ hK ?_
 obtain⟨S',φ',m',k',r',c'⟩:=hp
 have e:=YP ob wr hr
 exact⟨S',φ',hR.put (ob':=wrL ob wr) (by rw[e];exact m') (by rw[e];exact k') (by rw[e];exact r') (by rw[e];exact c'),by simp only[e];exact htr.kept k'⟩
theorem Qn {cx:Cx}(hT:TabOk P cx.T)(hC:P7 E.wl P cx){ops:Array Oper}{o:Oper}{st:ASt}{a:Act}{K:ASt->Prop}{Q:Exit->Act->World->Prop}
  (h:Ln cx ops o st K) (hR:RR E tr st a w) {next:Act->World->Prop} (hn :∀st' a' w',K st'->RR E tr st' a' w'->next a' w') :
  if Region.wanted o (yielded ops a.tmps) then o.wp P a w next Q else next (a.put o.dst undef) w:=
 Vm (F:=opK cx o) (fun m hav h=>GI hT hC m hav h) (show stepG ops o (opK cx o) st K from h) hR hn
theorem S9 (ops:Array Oper):(List.range ops.size).map (fun i=>ops[i]?)=ops.toList.map some:=by
 apply List.ext_getElem
 ·simp
 intro i h1 h2
 simp at h1
 simp[h1]
theorem Xy (s s':ASt) :∀{l l':List AV},tmW s s' l l'->l.length=l'.length/\∀i (hi:i<l.length) (hi':i<l'.length),AvW s s' l[i] l'[i]
 | [],[],_=>⟨rfl,fun i hi=>by simp at hi⟩
 | a::l,a'::l',h=>by
  have key:AvW s s' a a'/\tmW s s' l l':=by
   cases a'<;>simp only[tmW] at h<;>first | exact⟨.dead a,h⟩|exact h
  obtain⟨h1,h2⟩:=Xy s s' key.2
  refine⟨by simp[h1],fun i hi hi'=>?_⟩
  cases i with
  | zero=>exact key.1
  | succ i=>exact h2 i (by simpa using hi) (by simpa using hi')
 | [],_::_,h=>by simp[tmW] at h
 | _::_,[],h=>by simp[tmW] at h
theorem Rj (s s':ASt) :∀{l l':List AV},MV s s' l l'->l.length=l'.length/\∀i (hi:i<l.length) (hi':i<l'.length),l'[i].one=true/\AvW s s' l[i] l'[i]
 | [],[],_=>⟨rfl,fun i hi=>by simp at hi⟩
 | a::l,a'::l',h=>by
  simp only[MV] at h
  obtain⟨h1,h2⟩:=Rj s s' h.2
  refine⟨by simp[h1],fun i hi hi'=>?_⟩
  cases i with
  | zero=>exact h.1
  | succ i=>exact h2 i (by simpa using hi) (by simpa using hi')
 | [],_::_,h=>by simp[MV] at h
 | _::_,[],h=>by simp[MV] at h
theorem YT (s s':ASt) :∀{l l':List (Option OB)},obW s s' l l'->l.length=l'.length/\∀r o',l'.getD r none=some o'->
   match o' with
   | .box cs'=>∃cs,l.getD r none=some (.box cs)/\MV s s' cs cs'
   | .row e sz es frz=>(∃f,l.getD r none=some (.row e sz es f)/\fzW es f frz)\/(l.getD r none=none/\es=[]/\0<sz)
   | .map k e es=>l.getD r none=some (.map k e es) \/∃kv r' n,l.getD r none=some (.amap k e es kv r' n)
   | .amap k e es kv r' n=>(∃n',l.getD r none=some (.amap k e es kv r' n')/\n'=n)\/((l.getD r none=some (.map k e es) \/∃kv r' n,l.getD r none=some (.amap k e es kv r' n))/\(∃tk,BZ tk (.val kv) es=some none)/\n=0/\s.ob.getD r' none=none/\∃e' sz f,s'.ob.getD r' none=some (.row e' sz [] f))
   | .gone=>l.getD r none=some .gone
 | [],[],_=>⟨rfl,fun r o' h=>by simp at h⟩
 | o::l,x::l',h=>by
  have tail:obW s s' l l':=by
   cases x with
   | none=>simpa[obW] using h
   | some q=>cases q<;>simp only[obW] at h<;>exact h.2
  obtain⟨h1,h2⟩:=YT s s' tail
  refine⟨by simp[h1],fun r o' hr=>?_⟩
  cases r with
  | zero=>
   simp at hr
   subst hr
   cases o'<;>simp only[obW] at h
   all_goals simpa using h.1
  | succ r=>simpa using h2 r o' (by simpa using hr)
 | [],_::_,h=>by simp[obW] at h
 | _::_,[],h=>by simp[obW] at h
theorem sw_sw (i j r:Nat):sw i j (sw i j r)=r:=by
 unfold sw
 cases h1:Nat.beq r i with
 | true=>
  have:=X30 h1
  simp only
  cases h2:Nat.beq j i with
  | true=>have:=X30 h2;simp only;omega
  | false=>simp only[Nat.beq_refl];omega
 | false=>
  simp only
  cases h2:Nat.beq r j with
  | true=>
   have:=X30 h2
   simp only[Nat.beq_refl];omega
  | false=>simp only[h1,h2]
theorem dL {i j r r':Nat}(h:sw i j r=sw i j r'):r=r':=by rw[<- sw_sw i j r,h,sw_sw]
theorem fN {i j np r:Nat}(hi:np<=i)(hj:np<=j)(hr:r<np):sw i j r=r:=by
 unfold sw
 have h1:Nat.beq r i=false:=by
  cases h:Nat.beq r i with
  | true=>have:=X30 h;omega
  | false=>rfl
 have h2:Nat.beq r j=false:=by
  cases h:Nat.beq r j with
  | true=>have:=X30 h;omega
  | false=>rfl
 simp[h1,h2]
theorem Dn (i j:Nat) :∀l:List AV,AV.sw.swL i j l=l.map (AV.sw i j)
 | []=>rfl
 | a::l=>by simp[AV.sw.swL,Dn i j l]
theorem aL (i j:Nat)(a:AV):(a.sw i j).one=a.one:=by cases a<;>rfl
theorem FZ.sw_sw (i j:Nat)(f:FZ):(f.sw i j).sw i j=f:=by cases f<;>simp[FZ.sw,Go.AX.sw_sw]
theorem RepA.sw {S:Sc}{w:World}{φ:Nat->Option (Nat×Rp)}{ob:Nat->Option OB}(i j:Nat){a:AV}{v:Value}(h:RepA S w φ ob a v) :
  RepA S w (fun r=>φ (Go.AX.sw i j r)) (fun r=>(ob (Go.AX.sw i j r)).map (OB.sw i j)) (a.sw i j) v:=by
 have row :∀{r e sz:Nat} {es:List D} {frz:FZ},(ob (Go.AX.sw i j (Go.AX.sw i j r))).map (OB.sw i j)=some (.row e sz es frz)->ob r=some (.row e sz es (frz.sw i j)):=by
  intro r e sz es frz hx
  rw[Go.AX.sw_sw] at hx
  cases ho:ob r with
  | none=>rw[ho] at hx;simp at hx
  | some o=>
   rw[ho] at hx
   cases o<;>simp[OB.sw] at hx
   obtain⟨rfl,rfl,rfl,rfl⟩:=hx
   rw[FZ.sw_sw]
 have box :∀{r:Nat} {cs:List AV},(ob (Go.AX.sw i j (Go.AX.sw i j r))).map (OB.sw i j)=some (.box cs)->∃cs',ob r=some (.box cs'):=by
  intro r cs hx
  rw[sw_sw] at hx
  cases ho:ob r with
  | none=>rw[ho] at hx;simp at hx
  | some o=>
   rw[ho] at hx
   cases o<;>simp[OB.sw] at hx
   exact⟨_,rfl⟩
 induction h with
 | d x v h=>exact .d x v h
 | agg cs vs f hs hf hn _ ih=>
  refine .agg _ vs f (by simp[Dn,hs]) (fun k hk=>hf k (by simpa[Dn] using hk)) (fun k hk=>?_) fun k hk=>?_
  ·simp only[Dn,List.getElem_map,aL];exact hn _ _
  simp only[Dn,List.getElem_map];exact ih _ _
 | tup cs vs f hs hf _ ih=>
  refine .tup _ vs f (by simp[Dn,hs]) (fun k hk=>hf k (by simpa[Dn] using hk)) fun k hk=>?_
  simp only[Dn,List.getElem_map];exact ih _ _
 | fn f cs vs g hs hf _ ih=>
  refine .fn f _ vs g (by simp[Dn,hs]) (fun k hk=>hf k (by simpa[Dn] using hk)) fun k hk=>?_
  simp only[Dn,List.getElem_map];exact ih _ _
 | ref r off b c h hb=>exact .ref _ off b c (by simpa[sw_sw] using h) fun e sz es frz hx=>hb e sz es _ (row hx)
 | eref cs b o f hS hn h=>exact .eref cs b o f hS hn h
 | own r n v k c a0 hv hk h hb=>
  refine .own _ n v k c a0 hv hk (fun e sz es frz hx=>?_) fun cs hx=>?_
  ·obtain⟨g1,g2⟩:=h e sz es _ (row hx)
   refine⟨g1,fun hn=>?_⟩
   have:=g2 hn
   unfold IR at *
   simpa[sw_sw] using this
  obtain⟨cs',hx'⟩:=box hx
  simpa[sw_sw] using hb cs' hx'
 | rref r n a k v h hb hp=>
  refine .rref _ n a k v (fun e sz es frz hx=>?_) (fun cs hx=>?_) hp
  ·simpa[sw_sw] using h e sz es _ (row hx)
  obtain⟨cs',hx'⟩:=box hx
  simpa[sw_sw] using hb cs' hx'
 | mp r b c h hb hc=>
  refine .mp _ b c (by simpa[sw_sw] using h) (fun e sz es frz hx=>hb e sz es _ (row hx)) fun cs hx=>?_
  obtain⟨cs',hx'⟩:=box hx
  exact hc cs' hx'
 | it f r b c B h hb hc hS hm=>
  refine .it f _ b c B (by simpa[sw_sw] using h) (fun e sz es frz hx=>hb e sz es _ (row hx)) (fun cs hx=>?_) hS hm
  obtain⟨cs',hx'⟩:=box hx
  exact hc cs' hx'
 | osl r a n m v k c a0 hv hk h=>exact .osl _ a n m v k c a0 hv hk fun e sz es frz hx=>by simpa[sw_sw,IR] using h e sz es _ (row hx)
 | gl g=>exact .gl g
 | gv g v hS hv=>exact .gv g v hS hv
 | dead v=>exact .dead v
theorem UQ (i j:Nat) :∀(a:AV) (r:Nat),r∈(a.sw i j).refs->Go.AX.sw i j r∈a.refs
 | .d x,r,h=>by simp[AV.sw,AV.refs] at h
 | .eref _,r,h=>by simp[AV.sw,AV.refs] at h
 | .dead,r,h=>by simp[AV.sw,AV.refs] at h
 | .gl _,r,h=>by simp[AV.sw,AV.refs] at h
 | .gv _,r,h=>by simp[AV.sw,AV.refs] at h
 | .ref q _,r,h=>by simp only[AV.sw,AV.refs,X14] at h ⊢;rw[h,sw_sw]
 | .own q _,r,h=>by simp only[AV.sw,AV.refs,X14] at h ⊢;rw[h,sw_sw]
 | .mp q,r,h=>by simp only[AV.sw,AV.refs,X14] at h ⊢;rw[h,sw_sw]
 | .it _ q,r,h=>by simp only[AV.sw,AV.refs,X14] at h ⊢;rw[h,sw_sw]
 | .rref q _ _ _,r,h=>by simp only[AV.sw,AV.refs,X14] at h ⊢;rw[h,sw_sw]
 | .osl q _ _ _,r,h=>by simp only[AV.sw,AV.refs,X14] at h ⊢;rw[h,sw_sw]
 | .agg cs,r,h=>sw_refsL i j cs r (by simpa only[AV.sw,AV.refs] using h)
 | .fn _ cs,r,h=>sw_refsL i j cs r (by simpa only[AV.sw,AV.refs] using h)
 | .tup cs,r,h=>sw_refsL i j cs r (by simpa only[AV.sw,AV.refs] using h) where
 sw_refsL (i j:Nat) :∀(cs:List AV) (r:Nat),r∈AV.refs.refsL (AV.sw.swL i j cs)->Go.AX.sw i j r∈AV.refs.refsL cs
  | [],r,h=>by simp[AV.sw.swL,AV.refs.refsL] at h
  | a::l,r,h=>by
   simp only[AV.sw.swL,AV.refs.refsL,X23] at h ⊢
   exact h.imp (UQ i j a r) (sw_refsL i j l r)
theorem ObjOK.sw {S:Sc}{w:World}{φ:Nat->Option (Nat×Rp)}{ob:Nat->Option OB}(i j:Nat){r:Nat}{o:OB}(h:ObjOK S w φ ob (Go.AX.sw i j r) o) :
  ObjOK S w (fun r=>φ (Go.AX.sw i j r)) (fun r=>(ob (Go.AX.sw i j r)).map (OB.sw i j)) r (o.sw i j):=by
 cases o with
 | box cs=>
  obtain⟨b,c,vs,e,f,h1,h2,h3,h4,h5,h6⟩:=h
  refine⟨b,c,vs,e,f,h1,h2,by simp[Dn,h3],h4,fun k hk=>h5 k (by simpa[Dn] using hk),fun k hk=>?_⟩
  have hk':k<cs.length:=by simpa[Dn] using hk
  simp only[Dn,List.getElem_map,aL]
  exact⟨(h6 k hk').1,(h6 k hk').2.sw i j⟩
 | row e sz es frz=>
  obtain⟨h0,h1,h2,h3⟩:=h
  refine⟨h0,h1,h2,h3.imp id ?_⟩
  rintro⟨b,cap,vs,f,f1,f2,f3,f4,f5,f6,f7,f8⟩
  refine⟨b,cap,vs,f,f1,f2,f3,f4,f5,f6,f7,fun o ho=>f8.1 o (by cases frz<;>exact ho),fun i' j' q n hq hi hj=>?_⟩
  cases frz with
  | no=>simp[FZ.sw] at hq
  | yes=>simp[FZ.sw] at hq
  | lk i2 j2 q2 n2=>
   simp only[FZ.sw,FZ.lk.injEq] at hq
   obtain⟨rfl,rfl,rfl,rfl⟩:=hq
   exact (f8.2 _ _ _ _ rfl hi hj).sw i j
 | map k e es=>exact h
 | amap k e es kv r' n=>
  obtain⟨b,c,arr,clock,h1,h2,h3,h4,h5,h6⟩:=h
  exact⟨b,c,arr,clock,h1,h2,h3,h4,h5,h6.imp fun v hv=>hv.sw i j⟩
 | gone=>trivial
theorem Q1 (i j:Nat) :∀l:List (Option OB),(N5 i j l).length=l.length
 | []=>rfl
 | none::l=>by simp[N5,Q1 i j l]
 | some o::l=>by simp[N5,Q1 i j l]
theorem JA (i j:Nat) :∀(l:List (Option OB)) (r:Nat),(N5 i j l).getD r none=(l.getD r none).map (OB.sw i j)
 | [],r=>by simp[N5]
 | none::l,0=>by simp[N5]
 | some o::l,0=>by simp[N5]
 | none::l,r+1=>by simpa[N5] using JA i j l r
 | some o::l,r+1=>by simpa[N5] using JA i j l r
theorem aC {i j:Nat}{s:ASt}(hi:i<s.ob.length)(hj:j<s.ob.length)(r:Nat):obf (JS i j s).ob r=(obf s.ob (sw i j r)).map (OB.sw i j):=by
 have hl:=Q1 i j s.ob
 simp only[obf,JS]
 rw[List.getD_eq_getElem?_getD,List.getElem?_set]
 unfold sw
 by_cases h2:j=r
 ·subst h2
  rw[if_pos rfl,if_pos (by simpa[hl] using hj)]
  simp only[Option.getD_some]
  cases h1:Nat.beq j i with
  | true=>
   have:=X30 h1
   subst this
   rw[JA]
  | false=>simp only[Nat.beq_refl,JA]
 rw[if_neg h2,List.getElem?_set]
 have hb2:Nat.beq r j=false:=by
  cases h:Nat.beq r j with
  | true=>exact absurd (X30 h).symm h2
  | false=>rfl
 by_cases h1:i=r
 ·subst h1
  rw[if_pos rfl,if_pos (by simpa[hl] using hi)]
  simp only[Option.getD_some,Nat.beq_refl,JA]
 have hb1:Nat.beq r i=false:=by
  cases h:Nat.beq r i with
  | true=>exact absurd (X30 h).symm h1
  | false=>rfl
 rw[if_neg h1]
 simp only[hb1,hb2]
 rw[<- List.getD_eq_getElem?_getD,JA]
theorem Wz {i j:Nat}{s:ASt}(hi:tr.np<=i)(hj:tr.np<=j)(hli:i<s.ob.length)(hlj:j<s.ob.length){a:Act}(hR:RR E tr s a w):RR E tr (JS i j s) a w:=by
 obtain⟨S,φ,hR,htr⟩:=hR
 have hob:obf (JS i j s).ob=fun r=>(obf s.ob (sw i j r)).map (OB.sw i j):=funext fun r=>aC hli hlj r
 have m:=hR.mem
 have hne :∀{r:Nat},(obf s.ob (sw i j r)).map (OB.sw i j)≠none->obf s.ob (sw i j r)≠none:=fun h he=>h (by rw[he];rfl)
 refine⟨S,fun r=>φ (sw i j r),⟨by simp[JS,Dn,hR.sz],fun k hk=>?_,hR.df,?_⟩,fun r hr h0=>?_⟩
 ·have hk':k<s.tm.length:=by simpa[JS,Dn] using hk
  have e:(JS i j s).tm[k]=(s.tm[k]).sw i j:=by simp[JS,Dn]
  rw[e,hob]
  obtain⟨h1,h2⟩:=hR.tm k hk'
  refine⟨h1.sw i j,fun r hr=>?_⟩
  have:=h2 _ (UQ i j _ r hr)
  simp only
  cases ho:obf s.ob (sw i j r) with
  | none=>exact absurd ho this
  | some o=>simp
 ·rw[hob]
  refine⟨fun r o ho=>?_,fun r r' b c c' h1 h2 g1 g2=>?_,fun r o ho r' hm=>?_,m.sS,m.kS,m.bS,m.nS,m.fr,m.sz,fun r b c h g=>m.ow _ b c (hne h) g,m.os⟩
  ·cases hq:obf s.ob (sw i j r) with
   | none=>simp only[hq] at ho;simp at ho
   | some o0=>
    simp only[hq,Option.map_some,X24] at ho
    subst ho
    exact (m.obj _ _ hq).sw i j
  ·exact dL (m.inj _ _ b c c' (hne h1) (hne h2) g1 g2)
  cases hq:obf s.ob (sw i j r) with
  | none=>simp only[hq] at ho;simp at ho
  | some o0=>
   simp only[hq,Option.map_some,X24] at ho
   subst ho
   have:sw i j r'∈o0.refs:=by
    cases o0 with
    | box cs=>exact UQ.sw_refsL i j cs r' (by simpa[OB.sw,OB.refs] using hm)
    | row e2 sz2 es2 f2=>
     cases f2 with
     | no=>simp[OB.sw,OB.refs,FZ.sw] at hm
     | yes=>simp[OB.sw,OB.refs,FZ.sw] at hm
     | lk=>
      simp only[OB.sw,OB.refs,FZ.sw,FZ.refs_lk,X14] at hm
      simp only[OB.refs,FZ.refs_lk,X14]
      rw[hm,Go.AX.sw_sw]
    | map=>simp[OB.sw,OB.refs] at hm
    | amap k e es kv r2 n=>
     simp only[OB.sw,OB.refs,X14] at hm
     simp only[OB.refs,X14]
     rw[hm,sw_sw]
    | gone=>simp[OB.sw,OB.refs] at hm
   have:=m.men _ _ hq _ this
   cases ho':obf s.ob (sw i j r') with
   | none=>exact absurd ho' this
   | some o=>simp
 obtain⟨h1,h2⟩:=htr r hr h0
 rw[hob]
 have e:=fN hi hj hr
 refine⟨by simp only[e];cases ho:obf s.ob r with
  | none=>exact absurd ho h1
  | some o=>simp,?_⟩
 have hh:hdr ((obf s.ob r).map (OB.sw i j))=hdr (obf s.ob r):=by
  cases obf s.ob r with
  | none=>rfl
  | some o=>cases o<;>rfl
 have hbx :∀cs,(obf s.ob r).map (OB.sw i j)=some (.box cs)->∃cs',obf s.ob r=some (.box cs'):=by
  intro cs hx
  cases ho:obf s.ob r with
  | none=>rw[ho] at hx;simp at hx
  | some o=>
   rw[ho] at hx
   cases o<;>simp[OB.sw] at hx
   exact⟨_,rfl⟩
 rcases h2 with ⟨a1,a2,a3⟩|⟨e',sz,es,frz,es',frz',a1,a2,a3,a4⟩|⟨a1,a2,a3⟩
 ·exact .inl ⟨by simp only[e];exact a1,by simp only[e];exact hh.trans a2,fun ⟨cs,hx⟩=>a3 (hbx cs (by simpa only[e] using hx))⟩
 ·exact .inr (.inl ⟨e',sz,es,frz,es',frz'.sw i j,a1,by simp only[e,a2];rfl,a3,fun hq=>by simp only[e];exact a4 hq⟩)
 refine .inr (.inr ⟨a1,by simp only[e];exact hh.trans a2,fun cs hx=>?_⟩)
 obtain⟨cs',hx'⟩:=hbx cs (by simpa only[e] using hx)
 exact a3 cs' hx'
theorem VT {s s':ASt}(h:Weak0 tr.np s s'){a:Act}(hR:RR E tr s a w):RR E tr s' a w:=by
 obtain⟨S,φ,hR,htr⟩:=hR
 obtain⟨hpar,htm,hob,hcl⟩:=h
 obtain⟨t1,t2⟩:=Xy s s' htm
 obtain⟨o1,o2⟩:=YT s s' hob
 have m:=hR.mem
 let S':Sc:=fun b o=>S b o\/(∃r e sz es f c,obf s.ob r=some (.row e sz es f)/\φ r=some (b,c)/\o<c.2+es.length*sz/\(obf s'.ob r=none\/obf s'.ob r=some (.row e sz es .yes))) \/
  ∃r cs c,obf s.ob r=some (.box cs)/\φ r=some (b,c)/\o<cs.length/\obf s'.ob r=none
 let φ':Nat->Option (Nat×Rp):=fun r=>match obf s.ob r with
  | none=>none
  | some _=>φ r
 have hφ :∀{r},obf s.ob r≠none->φ' r=φ r:=by
  intro r hr
  simp only[φ']
  cases hq:obf s.ob r with
  | none=>exact absurd hq hr
  | some q=>rfl
 have hS:NN S w S' w:=fun b o h=>⟨.inl h,rfl⟩
 have hS8 :∀{r b c},obf s.ob r≠none->obf s'.ob r≠none->φ r=some (b,c)->∀o,S' b o->S b o \/∃e sz es f,obf s.ob r=some (.row e sz es f)/\o<c.2+es.length*sz/\(obf s'.ob r=none\/obf s'.ob r=some (.row e sz es .yes)):=by
  intro r b c h1 h1' h2 o ho
  rcases ho with ho | ⟨r',e,sz,es,f,c',g1,g2,g3,g4⟩|⟨r',cs,c',g1,g2,g3,g4⟩
  ·exact .inl ho
  ·have:=m.inj r' r b c' c (by rw[g1];simp) h1 g2 h2
   subst this
   rw[g2] at h2
   simp only[X24,X26,true_and] at h2
   subst h2
   exact .inr ⟨e,sz,es,f,g1,g3,g4⟩
  have:=m.inj r' r b c' c (by rw[g1];simp) h1 g2 h2
  subst this
  exact absurd g4 h1'
 have hclA :∀r∈AV.refs.refsL s'.tm,obf s'.ob r≠none:=by
  intro r hr
  simp only[NM,X27,List.all_eq_true] at hcl
  have:=hcl.1 r hr
  intro h
  simp only[obf] at h
  rw[h] at this
  simp at this
 have hclO :∀r o,obf s'.ob r=some o->∀r'∈o.refs,obf s'.ob r'≠none:=by
  intro r o ho r' hr'
  simp only[NM,X27,List.all_eq_true] at hcl
  have hmem:some o∈s'.ob:=by
   have hlt:=By s'.ob r o ho
   have:s'.ob[r]=some o:=by
    have h2:s'.ob.getD r none=s'.ob[r]:=by simp[hlt]
    rw[<- h2];exact ho
   rw[<- this]
   exact List.getElem_mem hlt
  have:=hcl.2 (some o) hmem
  simp only[List.all_eq_true] at this
  have:=this r' hr'
  intro h
  simp only[obf] at h
  rw[h] at this
  simp at this
 have href :∀r,obf s.ob r≠none->obf s'.ob r≠none->RefOK φ (obf s.ob) φ' (obf s'.ob) r:=by
  intro r h1 h2
  refine .inl ⟨hφ h1,?_,?_⟩
  ·cases hq:obf s'.ob r with
   | none=>exact absurd hq h2
   | some q=>
    have:=o2 r q hq
    cases q with
    | box cs'=>
     obtain⟨cs,g1,_⟩:=this
     have g1':obf s.ob r=some (.box cs):=g1
     rw[g1'];rfl
    | map k e es=>
     rcases this with g1 | ⟨kv,r2,n2,g1⟩
     ·have g1':obf s.ob r=some (.map k e es):=g1
      rw[g1']
     have g1':obf s.ob r=some (.amap k e es kv r2 n2):=g1
     rw[g1'];rfl
    | amap k e es kv r2 n2=>
     rcases this with ⟨n3,g1,_⟩|⟨g1 | ⟨_,_,_,g1⟩,_⟩
     ·have g1':obf s.ob r=some (.amap k e es kv r2 n3):=g1
      rw[g1'];rfl
     ·have g1':obf s.ob r=some (.map k e es):=g1
      rw[g1'];rfl
     have g1':obf s.ob r=some (.amap k e es _ _ _):=g1
     rw[g1'];rfl
    | gone=>
     have g1':obf s.ob r=some .gone:=this
     rw[g1']
    | row e sz es frz=>
     rcases this with ⟨f,g1,_⟩|⟨g1,_⟩
     ·have g1':obf s.ob r=some (.row e sz es f):=g1
      rw[g1'];rfl
     exact absurd g1 h1
  rintro⟨cs',hc⟩
  obtain⟨cs,g1,_⟩:=o2 r _ hc
  exact⟨cs,g1⟩
 have fr :∀{r e sz:Nat} {f:FZ},s.ob.getD r none=none->s'.ob.getD r none=some (.row e sz [] f)->RepA S' w φ' (obf s'.ob) (.own r 0) (.slice none 0 0):=by
  intro r e sz f h h'
  have h'':obf s'.ob r=some (.row e sz [] f):=h'
  refine .own r 0 _ 0 0 none rfl rfl (fun e' sz' es' f' hx=>?_) fun cs hx=>?_
  ·rw[h''] at hx
   simp only[X24,OB.row.injEq] at hx
   obtain⟨rfl,rfl,rfl,rfl⟩:=hx
   refine⟨Nat.le_refl _,fun _=>.inl ⟨?_,rfl,_,rfl⟩⟩
   have h0:obf s.ob r=none:=h
   simp only[φ',h0]
  rw[h''] at hx
  simp at hx
 have rep :∀{x x':AV} {v:Value},AvW s s' x x'->RepA S w φ (obf s.ob) x v->Closed (obf s.ob) x->(∀r∈x'.refs,obf s'.ob r≠none)->RepA S' w φ' (obf s'.ob) x' v:=by
  intro x x' v hw
  induction hw generalizing v with
  | lstB r cs ys sz h h' hsz hl hp hcw hn ih=>
   intro hv hc hc'
   cases hv with | own _ _ _ k c a0 hv hk h1 hb=>
   have hq:obf s.ob r=some (.box cs):=h
   obtain⟨_,b,c',f1,rfl⟩:=hb cs hq
   obtain⟨b',c2,vs,e,f,q1,q2,q3,q4,q5,q6⟩:=m.obj r _ hq
   rw[q1] at f1
   simp only[X24,X26] at f1
   obtain⟨rfl,rfl⟩:=f1
   subst hsz
   refine .d _ _ (.lst cs.length [.agg ys] b' 0 1 (fun _ j=>f j) (by simp[maxLen]) (Nat.le_refl _) (fun i hi=>?_) (fun i j hi hj=>⟨.inr (.inr ⟨r,cs,c2,hq,q1,?_,h'⟩),?_⟩) (fun i hi j hj=>?_) fun i hi j hj=>?_)
   ·have:i=0:=by simpa using hi
    subst this
    simpa[D.cells] using hl
   ·have:i=0:=by simpa using hi
    subst this
    omega
   ·have:i=0:=by simpa using hi
    subst this
    rw[BQ q2]
    simpa using q5 j hj
   ·have:i=0:=by simpa using hi
    subst this
    exact hn j (by simpa[D.cells] using hj)
   have:i=0:=by simpa using hi
   subst this
   have hj':j<ys.length:=by simpa[D.cells] using hj
   have:=ih j (by omega) hj' (q6 j (by omega)).2 (fun r' hr'=>m.men r _ hq r' (by simpa[OB.refs] using AV.refs_mem cs j (by omega) r' hr')) (fun r' hr'=>by simp[AV.refs] at hr')
   cases this with | d _ _ this=>exact this
  | refl=>intro hv hc hc';exact hv.mono hS fun r hr=>href r (hc r hr) (hc' r hr)
  | dead=>intro hv hc hc';exact .dead _
  | ownL r n n' hn=>intro hv hc hc';subst hn;exact hv.mono hS fun r hr=>href r (hc r hr) (hc' r hr)
  | osl r a n m m' hm=>intro hv hc hc';subst hm;exact hv.mono hS fun r hr=>href r (hc r hr) (hc' r hr)
  | norm x=>intro hv hc hc';cases hv with | d _ _ hv=>exact .d _ _ (hv.norm.mono hS)
  | lst r n e sz es f h hn h'=>
   intro hv hc hc'
   cases hv with | own _ _ _ k c a0 hv hk h1 hb=>
   have hq:obf s.ob r=some (.row e sz es f):=h
   obtain⟨g0,g1,g2,g3⟩:=m.obj r _ hq
   rcases (h1 e sz es f hq).2 hn with ⟨a1,a2,_,rfl⟩|⟨b,cap,a1,rfl⟩
   ·have:es=[]:=List.eq_nil_of_length_eq_zero (by omega)
    subst this
    exact .d _ _ (.lst0 sz _ _)
   rcases g3 with ⟨b1,_⟩|⟨b',cap',vs,g,f1,f2,f3,f4,f5,f6,f7,f8⟩
   ·rw[b1] at a1;simp at a1
   rw[f1] at a1
   simp only[X24,X26] at a1
   obtain⟨rfl,rfl⟩:=a1
   rw[hn]
   refine .d _ _ (.lst sz es b' cap'.2 cap'.1 g (Nat.le_trans f3 f4) f3 g1 (fun i j hi hj=>⟨.inr (.inl ⟨r,e,sz,es,f,cap',hq,f1,?_,h'⟩),?_⟩) g2 fun i hi j hj=>(f7 i hi j hj).mono hS)
   ·have:(i+1)*sz<=es.length*sz:=X31 _ hi
    rw[X32] at this
    omega
   rw[BQ f2,Nat.add_assoc]
   exact f6 i j hi hj
  | oslD r a n m0 e sz es zs f h hm hz h'=>
   intro hv hc hc'
   cases hv with | osl _ _ _ _ _ k c a0 hv hk h1=>
   have hq:obf s.ob r=some (.row e sz es f):=h
   obtain⟨g0,g1,g2,g3⟩:=m.obj r _ hq
   obtain⟨a1,a2,_⟩:=(h1 e sz es f hq).2 hm
   rcases a2 with a2 | ⟨b,cap,c',a2,a3,a4⟩
   ·have:zs=[]:=by rw[<- hz,a2];simp
    subst this
    rw[hv,hk,a2]
    exact .d _ _ (.lst0 sz _ _)
   rcases g3 with ⟨b1,_⟩|⟨b',cap',vs,g,f1,f2,f3,f4,f5,f6,f7,f8⟩
   ·rw[b1] at a2;simp at a2
   rw[f1] at a2
   simp only[X24,X26] at a2
   obtain⟨rfl,rfl⟩:=a2
   have hlen:zs.length=n:=by rw[<- hz];simp;omega
   have hget :∀i (hi:i<zs.length),zs[i]=es[a+i]'(by omega):=by
    intro i hi;subst hz;simp
   rw[a3]
   have key:=RepD.lst (S:=S') (w:=w) sz zs b' (cap'.2+a*sz) c' (fun i j=>g (a+i) j) (by omega) (by omega) (fun i hi=>by rw[hget i hi];exact g1 _ _) (fun i j hi hj=>⟨.inr (.inl ⟨r,e,sz,es,f,cap',hq,f1,?_,h'⟩),?_⟩) (fun i hi j hj=>?_) fun i hi j hj=>?_
   ·rw[hlen] at key
    exact .d _ _ key
   ·have:(a+i+1)*sz<=es.length*sz:=X31 _ (by omega)
    rw[X32,X32] at this
    omega
   ·rw[BQ f2]
    have e2:cap'.2+a*sz+i*sz+j=cap'.2+((a+i)*sz+j):=by rw[X32];omega
    rw[e2]
    exact f6 (a+i) j (by omega) hj
   ·have:=hget i hi
    simp only[this] at hj ⊢
    exact g2 (a+i) (by omega) j hj
   have:=hget i hi
   simp only[this] at hj ⊢
   exact (f7 (a+i) (by omega) j hj).mono hS
  | fresh r e sz h h'=>
   intro hv hc hc'
   cases hv with | d _ _ hv=>
   cases hv with | nil=>exact fr h h'
  | tup cs cs' hl hcw ih=>
   intro hv hc hc'
   cases hv with | tup _ vs f hs hf hr=>
   exact .tup cs' vs f (by omega) (fun i hi=>hf i (by omega)) fun i hi=>ih i (by omega) hi (hr i (by omega)) (fun r hr'=>hc r (by simpa[AV.refs] using AV.refs_mem cs i (by omega) r hr')) fun r hr'=>hc' r (by simpa[AV.refs] using AV.refs_mem cs' i hi r hr')
  | agg cs cs' hl hcw hn ih=>
   intro hv hc hc'
   cases hv with | agg _ vs f hs hf _ hr=>
   exact .agg cs' vs f (by omega) (fun i hi=>hf i (by omega)) hn fun i hi=>ih i (by omega) hi (hr i (by omega)) (fun r hr'=>hc r (by simpa[AV.refs] using AV.refs_mem cs i (by omega) r hr')) fun r hr'=>hc' r (by simpa[AV.refs] using AV.refs_mem cs' i hi r hr')
  | aggD cs ys hl hcw hn ih=>
   intro hv hc hc'
   cases hv with | agg _ vs f hs hf _ hr=>
   refine .d _ _ (.agg ys vs f (by omega) (fun i hi=>hf i (by omega)) hn fun i hi=>?_)
   have:=ih i (by omega) hi (hr i (by omega)) (fun r hr'=>hc r (by simpa[AV.refs] using AV.refs_mem cs i (by omega) r hr')) (fun r hr'=>by simp[AV.refs] at hr')
   cases this with | d _ _ this=>exact this
  | dagg ds cs' hl hcw hn ih=>
   intro hv hc hc'
   cases hv with | d _ _ hv=>
   cases hv with | agg _ vs f hs hf _ hr=>
   exact .agg cs' vs f (by omega) (fun i hi=>hf i (by omega)) hn fun i hi=>ih i (by omega) hi (.d _ _ (hr i (by omega))) (fun r hr'=>by simp[AV.refs] at hr') fun r hr'=>hc' r (by simpa[AV.refs] using AV.refs_mem cs' i hi r hr')
 refine⟨S',φ',⟨by rw[hR.sz,t1],fun i hi=>?_,hR.df,⟨?_,?_,hclO,fun b o h=>.inl (m.sS b o h),m.kS,?_,?_,m.fr,m.sz,?_,m.os⟩⟩,fun r hr h0=>?_⟩
 ·have hi':i<s.tm.length:=by omega
  refine⟨rep (t2 i hi' hi) (hR.tm i hi').1 (hR.tm i hi').2 fun r hr=>hclA r (AV.refs_mem s'.tm i hi r hr),fun r hr=>hclA r (AV.refs_mem s'.tm i hi r hr)⟩
 ·intro r o' ho'
  have hw:=o2 r o' ho'
  cases o' with
  | gone=>trivial
  | box cs'=>
   obtain⟨cs,g1,g2⟩:=hw
   have g1':obf s.ob r=some (.box cs):=g1
   obtain⟨c1,c2⟩:=Rj s s' g2
   obtain⟨b,c,vs,e,f,h1,h2,h3,h4,h5,h6⟩:=m.obj r _ g1'
   refine⟨b,c,vs,e,f,(hφ (by rw[g1'];simp)).trans h1,h2,by omega,fun o ho=>?_,fun j hj=>h5 j (by omega),fun j hj=>⟨(c2 j (by omega) hj).1,?_⟩⟩
   ·rcases hS8 (r:=r) (by rw[g1'];simp) (by rw[ho'];simp) h1 o ho with h | ⟨e',sz',es',f',q,_⟩
    ·exact h4 o h
    rw[g1'] at q;simp at q
   exact rep (c2 j (by omega) hj).2 (h6 j (by omega)).2 (fun r' hr'=>m.men r _ g1' r' (by simpa[OB.refs] using AV.refs_mem cs j (by omega) r' hr')) fun r' hr'=>hclO r _ ho' r' (by simpa[OB.refs] using AV.refs_mem cs' j hj r' hr')
  | map k e es=>
   obtain⟨o0,g1',hd0,b,c,arr,clock,h1,h2,h3,h4,h5⟩ :∃o0,obf s.ob r=some o0/\hdr (some o0)=none/\∃b c arr clock,φ r=some (b,c)/\w.heap[b]?=some (.map arr clock)/\(arr.size=es.length/\BornOK arr clock)/\(∀o,¬ S b o)/\
     ∀i (hi:i<es.length),∃x:MapEntry,arr[i]?=some x/\(∃u,es[i].1=.val u/\x.key=u/\u.oneCell'=true)/\RepD S w es[i].2 x.val:=by
    rcases hw with g1 | ⟨kv,r2,n2,g1⟩
    ·exact⟨_,g1,rfl,m.obj r _ g1⟩
    obtain⟨b,c,arr,clock,h1,h2,h3,h4,h5,_⟩:=m.obj r _ g1
    exact⟨_,g1,rfl,b,c,arr,clock,h1,h2,h3,h4,h5⟩
   refine⟨b,c,arr,clock,(hφ (by rw[g1'];simp)).trans h1,h2,h3,fun o ho=>?_,fun i hi=>?_⟩
   ·rcases hS8 (r:=r) (by rw[g1'];simp) (by rw[ho'];simp) h1 o ho with h | ⟨e',sz',es',f',q,_⟩
    ·exact h4 o h
    rw[g1'] at q
    obtain rfl:=X25 q
    simp[hdr] at hd0
   obtain⟨x,q1,q2,q3⟩:=h5 i hi
   exact⟨x,q1,q2,q3.mono hS⟩
  | amap k e es kv r2 n2=>
   obtain⟨o0,g1',hd0,b,c,arr,clock,h1,h2,h3,h4,h5,h6⟩ :∃o0,obf s.ob r=some o0/\hdr (some o0)=none/\∃b c arr clock,φ r=some (b,c)/\w.heap[b]?=some (.map arr clock)/\(arr.size=es.length/\BornOK arr clock)/\(∀o,¬ S b o)/\
     (∀i (hi:i<es.length),∃x:MapEntry,arr[i]?=some x/\(∃u,es[i].1=.val u/\x.key=u/\u.oneCell'=true)/\RepD S w es[i].2 x.val)/\AliasP kv (RepA S' w φ' (obf s'.ob) (.own r2 n2)) arr.toList:=by
    rcases hw with ⟨n3,g1,rfl⟩|⟨g1 | ⟨kv0,r0,n0,g1⟩,⟨tk,g2⟩,rfl,g3,e',sz,f,g4⟩
    ·obtain⟨b,c,arr,clock,h1,h2,h3,h4,h5,h6⟩:=m.obj r _ g1
     refine⟨_,g1,rfl,b,c,arr,clock,h1,h2,h3,h4,h5,h6.imp fun v hv=>hv.mono hS fun q hq=>?_⟩
     simp only[AV.refs,X14] at hq
     subst hq
     exact href q (m.men r _ g1 q (by simp[OB.refs])) (hclO r _ ho' q (by simp[OB.refs]))
    ·obtain⟨b,c,arr,clock,h1,h2,h3,h4,h5⟩:=m.obj r _ g1
     exact⟨_,g1,rfl,b,c,arr,clock,h1,h2,h3,h4,h5,JX (JM _ _) es arr.toList ⟨by simpa using h3.1,fun i hi=>by simpa using h5 i hi⟩ g2 (fr g3 g4)⟩
    obtain⟨b,c,arr,clock,h1,h2,h3,h4,h5,_⟩:=m.obj r _ g1
    exact⟨_,g1,rfl,b,c,arr,clock,h1,h2,h3,h4,h5,JX (JM _ _) es arr.toList ⟨by simpa using h3.1,fun i hi=>by simpa using h5 i hi⟩ g2 (fr g3 g4)⟩
   refine⟨b,c,arr,clock,(hφ (by rw[g1'];simp)).trans h1,h2,h3,fun o ho=>?_,fun i hi=>?_,h6⟩
   ·rcases hS8 (r:=r) (by rw[g1'];simp) (by rw[ho'];simp) h1 o ho with h | ⟨e',sz',es',f',q,_⟩
    ·exact h4 o h
    rw[g1'] at q
    obtain rfl:=X25 q
    simp[hdr] at hd0
   obtain⟨x,q1,q2,q3⟩:=h5 i hi
   exact⟨x,q1,q2,q3.mono hS⟩
  | row e sz es frz=>
   rcases hw with ⟨f,g1,g2⟩|⟨g1,rfl,g2⟩
   ·have g1':obf s.ob r=some (.row e sz es f):=g1
    obtain⟨h0,h1,h2,h3⟩:=m.obj r _ g1'
    refine⟨h0,h1,h2,h3.imp (fun q=>⟨(hφ (by rw[g1'];simp)).trans q.1,q.2⟩) ?_⟩
    rintro⟨b,cap,vs,g,f1,f2,f3,f4,f5,f6,f7,f8⟩
    refine⟨b,cap,vs,g,(hφ (by rw[g1'];simp)).trans f1,f2,f3,f4,f5,f6,fun i hi j hj=>(f7 i hi j hj).mono hS,fun o ho hs=>?_,fun i j q n hq hi hj=>?_⟩
    rotate_left
    ·have h5:=g2.2
     rw[hq] at h5
     rcases h5 with h5 | ⟨i',n',h5,rfl,rfl⟩
     ·omega
     refine (f8.2 i' j q n' h5 hi hj).mono hS fun r' hr'=>?_
     simp only[AV.refs,X14] at hr'
     subst hr'
     exact href r' (m.men r _ g1' r' (by simp[OB.refs,h5])) (hclO r _ ho' r' (by simp[OB.refs,hq]))
    rcases hS8 (r:=r) (by rw[g1'];simp) (by rw[ho'];simp) f1 o hs with h | ⟨e',sz',es',f',q,q2,q3⟩
    ·refine f8.1 o ?_ h
     cases f with
     | no=>simp
     | lk=>simp
     | yes=>rw[g2.1 rfl] at ho;exact ho
    rw[g1'] at q
    simp only[X24,OB.row.injEq] at q
    obtain⟨rfl,rfl,rfl,rfl⟩:=q
    rcases q3 with q3 | q3
    ·rw[ho'] at q3;simp at q3
    rw[ho'] at q3
    simp only[X24,OB.row.injEq] at q3
    rw[q3.2.2.2] at ho
    simp only[FZ.frozen_yes,if_true] at ho
    omega
   refine⟨g2,fun i hi=>by simp at hi,fun i hi=>by simp at hi,.inl ⟨?_,rfl⟩⟩
   have g1':obf s.ob r=none:=g1
   simp only[φ',g1']
 ·intro r1 r2 b c c' h1 h2 g1 g2
  have q :∀{r:Nat} {x:Nat×Rp},φ' r=some x->obf s.ob r≠none/\φ r=some x:=by
   intro r x h
   simp only[φ'] at h
   cases hq:obf s.ob r with
   | none=>simp[hq] at h
   | some q=>simp only[hq] at h;exact⟨by simp,h⟩
  obtain⟨a1,a2⟩:=q g1
  obtain⟨b1,b2⟩:=q g2
  exact m.inj r1 r2 b c c' a1 b1 a2 b2
 ·intro b o h
  rcases h with h | ⟨r,e,sz,es,f,c,g1,g2,_⟩|⟨r,cs,c,g1,g2,_⟩
  ·exact m.bS b o h
  ·exact (m.ow r b c (by rw[g1];simp) g2).1
  exact (m.ow r b c (by rw[g1];simp) g2).1
 ·intro b o h h1 h2
  rcases h with h | ⟨r,e,sz,es,f,c,g1,g2,_⟩|⟨r,cs,c,g1,g2,_⟩
  ·exact m.nS b o h h1 h2
  ·rcases (m.ow r b c (by rw[g1];simp) g2).2 with g | g
   ·omega
   exact absurd g h2
  rcases (m.ow r b c (by rw[g1];simp) g2).2 with g | g
  ·omega
  exact absurd g h2
 ·intro r b c h g
  simp only[φ'] at g
  cases hq:obf s.ob r with
  | none=>simp[hq] at g
  | some q=>
   simp only[hq] at g
   exact m.ow r b c (by rw[hq];simp) g
 have h1:obf s'.ob r≠none:=by
  simp only[List.all_eq_true,List.mem_range] at hpar
  have:=hpar r hr
  intro h
  simp only[obf] at h
  rw[h] at this
  have hq:=(htr r hr h0).1
  simp only[obf] at hq
  cases hz:s.ob.getD r none with
  | none=>exact hq hz
  | some z=>
   rw[hz] at this
   simp at this
 exact⟨h1,(htr r hr h0).2.trans (href r (htr r hr h0).1 h1)⟩
theorem MS {np:Nat}{s s':ASt}(h:Weak np s s')(hnp:np=tr.np){a:Act}(hR:RR E tr s a w):RR E tr s' a w:=by
 induction h with
 | mk h1 h2 h3 h4=>exact VT ⟨hnp ▸ h1,h2,h3,h4⟩ hR
 | swap i j hi hj hl _ ih=>
  simp only[X27] at hl
  exact ih (Wz (hnp ▸ X29 hi) (hnp ▸ X29 hj) (X29 hl.1) (X29 hl.2) hR)
def AE.exit':AE->Exit
 | .normal=>.normal
 | .exit id=>.exit id
 | .ret=>.ret
def U4 (wl:WL)(P:Program)(cx:Cx):Prop:=∀(E:Env),E.wl=wl->∀(tr:Trk) (id:Nat) (ops:Array Oper) (st:ASt) (a:Act) (w:World) (K:ASt->Prop) (Q:Exit->Act->World->Prop),tr.np=cx.np->
 (bL cx ops st K\/XQ cx ops st K)->RR E tr st a w->(∀st' a' w',K st'->RR E tr st' a' w'->Q .normal a' w')->(Code.region id ops true).wp P Q a w
theorem IE {np:Nat}(hnp:tr.np=np){X:(ASt->Prop)->Prop}{K:ASt->Prop}{c:Prop}(h:CutP np X K)
  (hX :∀K':ASt->Prop,X K'->(∀(st':ASt) (a':Act) (w':World),K' st'->RR E tr st' a' w'->∃st,K st/\RR E tr st a' w')->c):c:=by
 rcases h with h | ⟨J,h1,h2⟩
 ·exact hX K h fun st a' w' hK hR=>⟨st,hK,hR⟩
 refine hX _ h1 fun st a' w' ⟨s,hw,hJ⟩ hR=>⟨s,h2 s hJ,?_⟩
 rw[<- hnp] at hw
 exact MS hw rfl hR
theorem PR {cx:Cx}(hT:TabOk P cx.T)(hC:P7 E.wl P cx)(hnp:tr.np=cx.np){ops:Array Oper}{o:Oper}{st:ASt}{a:Act}{K:ASt->Prop}{Q:Exit->Act->World->Prop}
  (h:YV cx ops o st K) (hR:RR E tr st a w) {next:Act->World->Prop} (hn :∀st' a' w',K st'->RR E tr st' a' w'->next a' w') :
  if Region.wanted o (yielded ops a.tmps) then o.wp P a w next Q else next (a.put o.dst undef) w:=by
 have plain :∀{tm:List AV} {ob:List (Option OB)},RR E tr ⟨tm,ob⟩ a w->opX cx o (evO tm) ob (fun v w=>Lc tm o.dst v fun tm=>wrK ob w fun ob=>K ⟨tm,ob⟩)->o.wp P a w next Q:=by
  intro tm ob ⟨S,φ,hR,htr⟩ h
  obtain⟨out,wr,hK,hr,hrun⟩:=ZF hT hC hR.mem (ρ:=a.eval) (fun x=>hR.av x) h
  rw[HC,QE] at hK
  refine Ku hrun fun v w' hp=>hn _ _ _ hK ?_
  obtain⟨S',φ',m',k',r',c'⟩:=hp
  have e:=YP ob wr hr
  exact⟨S',φ',hR.put (ob':=wrL ob wr) (by rw[e];exact m') (by rw[e];exact k') (by rw[e];exact r') (by rw[e];exact c'),by simp only[e];exact htr.kept k'⟩
 obtain⟨tm0,ob⟩:=st
 refine NX (Y:=fun tm=>eK cx o tm ob K) (fun tm hR h=>?_) (st:=⟨tm0,ob⟩) h hR hn
 simp only at hR
 unfold eK at h
 split at h
 ·rename_i c hop
  split at h
  ·rename_i x hca
   obtain⟨f,caps,h,hf⟩:=QG h
   split at h
   ·obtain⟨callee,args,argTypes⟩:=c
    simp only at hca
    subst hca
    refine IE (E:=E) hnp h fun K' hX hw=>?_
    obtain⟨S,φ,hR,htr⟩:=hR
    have hg:=hC.2.2 _ _ _ _ hX
    refine Ku (WY (w:=w) (S:=S) (φ:=φ) (obl:=ob) (cx:=cx) (fun x=>hR.av x) hop hf (Q:=fun v w'=>∃S' φ' r ob',Lc tm o.dst r (fun tm=>K' ⟨tm,ob'⟩)/\Mem E w' S' φ' (fun r=>ob'.getD r none)/\Kept w S φ (fun r=>ob.getD r none) w' S' φ' (fun r=>ob'.getD r none)/\
      RepA S' w' φ' (fun r=>ob'.getD r none) r v/\Closed (fun r=>ob'.getD r none) r) fun vals hv=>hg.elim (fun ⟨g1,g2⟩=>.inl ⟨g1,g2 E rfl w S φ vals hv hR.mem⟩) fun g=>.inr (g E rfl w S φ vals hv hR.mem)) fun v w' ⟨S',φ',r,ob',hK,m',k',r',c'⟩=>?_
    rw[HC] at hK
    obtain⟨st,h1,h2⟩:=hw _ _ _ hK ⟨S',φ',hR.put (ob':=ob') m' k' r' c',htr.kept k'⟩
    exact hn _ _ _ h1 h2
   exact plain hR h
  exact plain hR h
 exact plain hR h
theorem OG {cx:Cx}(hT:TabOk P cx.T)(hC:P7 E.wl P cx)(hnp:tr.np=cx.np){ops:Array Oper}{Q:Exit->Act->World->Prop} :∀(l:List Nat) (os:List Oper) (_:l.map (fun i=>ops[i]?)=os.map some)
  {st:ASt} {a:Act} {w:World} {K:ASt->Prop} (_:Z7 cx ops os st K) (_:RR E tr st a w) (_ :∀st' a' w',K st'->RR E tr st' a' w'->Q .normal a' w'),wpOps P ops Q l a w
 | [],[],_,st,a,w,K,h,hR,hn=>hn st a w h hR
 | i::l,o::os,hm,st,a,w,K,h,hR,hn=>by
  simp only[List.map_cons,List.cons.injEq] at hm
  obtain⟨hi,hm⟩:=hm
  rw[wpOps_cons]
  unfold wpOp
  simp only[hi]
  simp only[Z7] at h
  have:=PR (Q:=Q) hT hC hnp h hR (next:=wpOps P ops Q l) fun st' a' w' hK hR'=>OG hT hC hnp l os hm hK hR' hn
  split
  ·rename_i hw;rw[if_pos hw] at this;exact .inl this
  rename_i hw;rw[if_neg hw] at this;exact this
 | [],_::_,hm,_,_,_,_,_,_,_=>by simp at hm
 | _::_,[],hm,_,_,_,_,_,_,_=>by simp at hm
theorem Pj {cx:Cx}(hT:TabOk P cx.T)(hC:P7 E.wl P cx)(hD:U4 E.wl P cx)(hnp:tr.np=cx.np)(c:Code) :
  ∀{st:ASt} {a:Act} {w:World} {K:AE->ASt->Prop} {Q:Exit->Act->World->Prop},GX cx c K st->RR E tr st a w->(∀e st' a' w',K e st'->RR E tr st' a' w'->Q e.exit' a' w')->c.wp P Q a w:=by
 induction c with
 | skip=>intro st a w K Q h hR hn;exact wp_skip (hn .normal _ _ _ h hR)
 | region id ops draw=>
  intro st a w K Q h hR hn
  cases draw with
  | false=>
   have h:dU cx ops st (K .normal):=h
   unfold dU at h
   split at h
   ·refine IE (E:=E) hnp h fun K' hX hw=>wp_region (OG hT hC hnp (List.range ops.size) ops.toList (S9 ops) hX hR fun st' a' w' hK hR'=>?_)
    obtain⟨s,h1,h2⟩:=hw _ _ _ hK hR'
    exact hn .normal _ _ _ h1 h2
   exact wp_region (OG hT hC hnp (List.range ops.size) ops.toList (S9 ops) h hR fun st' a' w' hK hR'=>hn .normal _ _ _ hK hR')
  | true=>
   simp only[GX] at h
   split at h
   ·refine IE (E:=E) hnp h fun K' hX hw=>hD E rfl tr id ops st a w _ Q hnp hX hR fun st' a' w' hK hR'=>?_
    obtain⟨s,h1,h2⟩:=hw _ _ _ hK hR'
    exact hn .normal _ _ _ h1 h2
   exact hD E rfl tr id ops st a w _ Q hnp h hR fun st' a' w' hK hR'=>hn .normal _ _ _ hK hR'
 | seq x y ihx ihy=>
  intro st a w K Q h hR hn
  simp only[GX] at h
  refine wp_seq (ihx h hR fun e st' a' w' hK hR'=>?_)
  cases e with
  | normal=>exact ihy hK hR' hn
  | exit id=>exact hn _ _ _ _ hK hR'
  | ret=>exact hn _ _ _ _ hK hR'
 | cond c x y ihx ihy=>
  intro st a w K Q h hR hn
  simp only[GX] at h
  obtain⟨S,φ,hR1,htr⟩:=hR
  split at h
  ·rename_i b hb
   have hav:=(hR1.av c).1
   rw[hb] at hav
   have hv:=hav.bool
   refine IE (E:=E) hnp h fun K' hX hw=>?_
   have hn' :∀e st' a' w',onN K K' e st'->RR E tr st' a' w'->Q e.exit' a' w':=by
    intro e st' a' w' hK hR'
    cases e with
    | normal=>
     obtain⟨s,h1,h2⟩:=hw _ _ _ hK hR'
     exact hn .normal _ _ _ h1 h2
    | exit id=>exact hn _ _ _ _ hK hR'
    | ret=>exact hn _ _ _ _ hK hR'
   refine wp_cond hv ?_
   cases b with
   | true=>exact ihx hX ⟨S,φ,hR1,htr⟩ hn'
   | false=>exact ihy hX ⟨S,φ,hR1,htr⟩ hn'
  exact h.elim
 | block id b ih=>
  intro st a w K Q h hR hn
  simp only[GX] at h
  refine IE (E:=E) hnp h fun K' hX hw=>?_
  refine wp_block (ih hX hR fun e st' a' w' hK hR'=>?_)
  cases e with
  | normal=>
   obtain⟨s,h1,h2⟩:=hw _ _ _ hK hR'
   exact hn .normal _ _ _ h1 h2
  | ret=>exact hn .ret _ _ _ hK hR'
  | exit i=>
   simp only[onB] at hK
   simp only[AE.exit',Exit.inBlock]
   by_cases hi:i=id
   ·rw[if_pos hi]
    rw[Bq.2 hi] at hK
    obtain⟨s,h1,h2⟩:=hw _ _ _ hK hR'
    exact hn .normal _ _ _ h1 h2
   rw[if_neg hi]
   have:Nat.beq i id=false:=by
    cases hb:Nat.beq i id with
    | false=>rfl
    | true=>exact absurd (Bq.1 hb) hi
   rw[this] at hK
   exact hn (.exit i) _ _ _ hK hR'
 | loop b ih=>
  intro st a w K Q h hR hn
  have h:LoopP cx.np (GX cx b) K st:=h
  obtain⟨h⟩:=h
  obtain⟨I,⟨s,n,hw,hI⟩,round⟩:=h (by
   intro t sz es he
   obtain⟨S,φ,hR1,htr⟩:=hR
   have hav:=(hR1.av (.tmp t)).1
   simp only[evO] at hav
   rw[he] at hav
   generalize a.eval (.tmp t)=v at hav
   cases hav with | d _ _ hav=>
   cases hav with
   | lst0=>simp
   | lst _ _ _ _ _ _ hl=>exact hl) (by
   intro r e sz es f he
   obtain⟨S,φ,hR1,htr⟩:=hR
   obtain⟨_,_,_,h⟩:=hR1.mem.obj r _ he
   rcases h with ⟨_,rfl⟩|⟨b,cap,vs,g,_,_,f3,f4,_⟩
   ·simp
   exact Nat.le_trans f3 f4)
  rw[<- hnp] at hw
  refine wp_loop_ghost (fun n a w=>∃s,I s n/\RR E tr s a w) n ⟨s,hI,MS hw rfl hR⟩ ?_
  rintro n a w ⟨s,hI,hR⟩
  refine ih (round s n hI) hR fun e st' a' w' hK hR'=>?_
  cases e with
  | normal=>
   obtain⟨s',m,hm,hw,hI'⟩:=hK
   rw[<- hnp] at hw
   exact⟨m,hm,s',hI',MS hw rfl hR'⟩
  | exit id=>exact hn _ _ _ _ hK hR'
  | ret=>exact hn _ _ _ _ hK hR'
 | exit id=>intro st a w K Q h hR hn;exact wp_exit (hn (.exit id) _ _ _ h hR)
 | ret=>intro st a w K Q h hR hn;exact wp_ret (hn .ret _ _ _ h hR)
 | rangeFunc=>intro st a w K Q h;simp[GX] at h
 | scope=>intro st a w K Q h;simp[GX] at h
 | label=>intro st a w K Q h;simp[GX] at h
 | goto=>intro st a w K Q h;simp[GX] at h
 | refuse=>intro st a w K Q h;simp[GX] at h
end
end Go.AX
end
section
namespace Go.AX
section
variable {P:Program} {E:Env} {tr:Trk} {w:World} {S:Sc} {φ:Nat->Option (Nat×Rp)}
def Zo (tmps:Array Value):ResultVar->Sem Value
 | .tmp t=>pure (tmps.getD t undef)
 | .cell a t=>do loadVar t (← asAddr (tmps.getD a undef))
def aM:List Value->Value
 | [u]=>u
 | us=>.tuple us.toArray
theorem Xf (fn:Func)(tmps:Array Value):results fn tmps=(do
  let vs ← fn.results.mapM (Zo tmps)
  pure (if h:vs.size=1 then vs[0] else .tuple vs)):=by
 unfold results
 congr 2
theorem Pi {fn:Func}{tmps:Array Value}{us:List Value}(h:(fn.results.toList.mapM (Zo tmps)).run P w=.ok us w):(results fn tmps).run P w=.ok (aM us) w:=by
 rw[Xf,Array.mapM_eq_mapM_toList]
 simp only[Sem.run_bind,Sem.run_map,h,Result.andThen_ok,Sem.run_pure]
 match us with
 | []=>rfl
 | [u]=>rfl
 | u::v::us=>rfl
theorem JL {cx:Cx}(hT:TabOk P cx.T){st:ASt}{a:Act}(hR:R E st a w S φ) :∀{rs:List ResultVar} {K:List AV->Prop},UM cx st rs K->
  ∃asz us,K asz/\(rs.mapM (Zo a.tmps)).run P w=.ok us w/\All2 (fun x v=>RepA S w φ (obf st.ob) x v/\Closed (obf st.ob) x) asz us
 | [],K,h=>⟨[],[],h,rfl,.nil⟩
 | .tmp t::rs,K,h=>by
  simp only[UM,CN] at h
  obtain⟨asz,us,h1,h2,h3⟩:=JL hT hR h
  refine⟨_,a.tmps.getD t undef::us,h1,?_,.cons (hR.av (.tmp t)) h3⟩
  simp[List.mapM_cons,Zo,h2]
 | .cell p ty::rs,K,h=>by
  simp only[UM] at h
  have hp:=hR.av (.tmp p)
  simp only[evO] at hp
  split at h
  ·rename_i r off hr
   rw[hr] at hp
   obtain⟨out,u,h1,h2,h3,h4⟩:=PO hT hR.mem hp.1 hp.2 h
   obtain⟨asz,us,g1,g2,g3⟩:=JL hT hR h1
   refine⟨_,u::us,g1,?_,.cons ⟨h3,h4⟩ g3⟩
   obtain⟨b,c,_,hv⟩:=hp.1.ref'
   have hv:a.tmps.getD p undef=.pointer (some ⟨b,off,none⟩):=hv
   have h2':(loadVar ty ⟨b,off,none⟩).run P w=.ok u w:=by
    have:(Instr.loadAt ty (a.tmps.getD p undef)).run P w=.ok u w:=h2
    rw[hv] at this
    simpa[Instr.loadAt,Instr.sureAddr] using this
   simp only[List.mapM_cons,Zo,hv,asAddr,Sem.run_bind,Sem.run_pure,Result.andThen_ok,h2',g2]
  exact h.elim
theorem Mem.restrict {ob:Nat->Option OB}(m:Mem E w S φ ob){idx:List Nat}{objs:List OB}(hn:idx.Nodup)(hl:idx.length=objs.length)
  (ho :∀i (hi:i<idx.length) (hi':i<objs.length),ob idx[i]=some objs[i]/\BO objs[i]=true):Mem E w S (sel idx φ) (ofL objs):=by
 have get :∀{i:Nat},ofL objs i≠none->∃hi:i<idx.length,ob idx[i]≠none/\sel idx φ i=φ idx[i]:=by
  intro i h
  have hi:i<idx.length:=by
   refine Nat.lt_of_not_le fun hge=>h ?_
   simp[ofL,show objs.length<=i by omega]
  refine⟨hi,?_,by simp[sel,hi]⟩
  rw[(ho i hi (by omega)).1];simp
 refine⟨fun i o h=>?_,fun i j b c c' h1 h2 g1 g2=>?_,fun i o h r' hm=>?_,m.sS,m.kS,m.bS,m.nS,m.fr,m.sz,fun i b c h g=>?_,m.os⟩
 ·obtain⟨hi,h1,h2⟩:=get (i:=i) (by simp[h])
  have e1:objs[i]=o:=by simpa[ofL,show i<objs.length by omega] using h
  rw[<- e1]
  exact (m.obj _ _ (ho i hi (by omega)).1).rename (ho i hi (by omega)).2 h2
 ·obtain⟨hi,p1,p2⟩:=get h1
  obtain⟨hj,q1,q2⟩:=get h2
  rw[p2] at g1
  rw[q2] at g2
  exact (List.getElem_inj hn).1 (m.inj _ _ b c c' p1 q1 g1 g2)
 ·obtain⟨hi,_,_⟩:=get (i:=i) (by simp[h])
  have e1:objs[i]=o:=by simpa[ofL,show i<objs.length by omega] using h
  rw[<- e1,Jg (ho i hi (by omega)).2] at hm
  simp at hm
 obtain⟨hi,p1,p2⟩:=get h
 exact m.ow _ b c p1 (p2 ▸ g)
theorem NW {obl:List (Option OB)} :∀{n i:Nat} {K:List OB->Prop},Jk obl n i K->∃objs,K objs/\objs.length=n/\∀j (hj:j<objs.length),obl.getD (i+j) none=some objs[j]/\BO objs[j]=true
 | 0,i,K,h=>⟨[],h,rfl,fun j hj=>by simp at hj⟩
 | n+1,i,K,h=>by
  simp only[Jk,A0] at h
  obtain⟨o,ho,h⟩:=h
  have go :∀{o:OB},obl.getD i none=some o->BO o=true->Jk obl n (i+1) (fun l=>K (o::l))->∃objs,K objs/\objs.length=n+1/\∀j (hj:j<objs.length),obl.getD (i+j) none=some objs[j]/\BO objs[j]=true:=by
   intro o ho hc h
   obtain⟨objs,g1,g2,g3⟩:=NW h
   refine⟨o::objs,g1,by simp[g2],fun j hj=>?_⟩
   cases j with
   | zero=>exact⟨ho,hc⟩
   | succ j=>
    have:=g3 j (by simpa using hj)
    rw[show i+1+j=i+(j+1) by omega] at this
    exact this
  cases o with
  | box cs=>
   simp only[IM] at h
   exact go ho h.1 h.2
  | row e sz es f=>
   simp only[AD] at h
   exact go ho h.1 h.2
  | gone=>exact go ho rfl h
  | amap=>exact h.elim
  | map k e es=>exact go ho rfl h
theorem Oj :∀{rs:List Nat} {r k:Nat},WQ rs r=some k->rs[k]?=some r
 | [],r,k,h=>by simp[WQ] at h
 | x::rs,r,k,h=>by
  simp only[WQ] at h
  split at h
  ·rename_i hb
   simp only[X24] at h
   subst h
   simp[X30 hb]
  split at h
  ·rename_i k' hk
   simp only[X24] at h
   subst h
   simpa using Oj hk
  simp at h
theorem UD :∀{rs:List Nat} {r:Nat},WQ rs r=none->Nv rs r=false
 | [],r,_=>rfl
 | x::rs,r,h=>by
  simp only[WQ] at h
  split at h
  ·simp at h
  rename_i hb
  split at h
  ·simp at h
  rename_i hk
  simp only[Nv,hb,UD hk,Bool.or_self]
def blF (rs:List Nat):AV->AV
 | .own r n=>(match Nv rs r with
  | true=>.d (.nil 1)
  | false=>.own r n)
 | a=>a
theorem RX (rs:List Nat) :∀cs:List AV,OE rs cs=cs.map (blF rs)
 | []=>rfl
 | c::cs=>by cases c<;>simp only[OE,List.map_cons,RX rs cs]<;>rfl
def mxF (np:Nat)(rs:List Nat):AV->D->AV
 | .own r n,d=>(match WQ rs r with
  | some k=>.own (np+k) n
  | none=>.d d)
 | _,d=>.d d
theorem V7 (np:Nat)(rs:List Nat) :∀(cs:List AV) (ds:List D),Xq np rs cs ds=List.zipWith (mxF np rs) cs ds
 | [],ds=>by simp[Xq]
 | c::cs,[]=>by cases c<;>simp[Xq]
 | c::cs,d::ds=>by cases c<;>simp only[Xq,List.zipWith_cons_cons,V7 np rs cs ds]<;>rfl
theorem U2 {obl:List (Option OB)}{ob:Nat->Option OB}{np:Nat}{rs:List Nat}(m:Mem E w S φ ob)(hx:FrzExt (obf obl) ob){cs:List AV}{v:Value}{K:AV->Prop}(hv:RepA S w φ ob (.agg cs) v)(h:UU np obl rs cs K) :
  ∃x' wr S',K x'/\Mem E w S' φ (Ar ob wr)/\Kept w S φ ob w S' φ (Ar ob wr)/\FrzExt (obf obl) (Ar ob wr)/\(∀q∈wr,np<=q.1/\q.1∉rs)/\rs.Nodup/\(∀r∈rs,np<=r)/\
   (∀(φ':Nat->Option (Nat×Rp)) (ob':Nat->Option OB),(∀k (hk:k<rs.length),φ' (np+k)=φ rs[k]/\ob' (np+k)=ob rs[k])->RepA S' w φ' ob' x' v)/\∀q∈x'.refs,∃k,k<rs.length/\q=np+k:=by
 unfold UU at h
 rw[AD] at h
 obtain⟨h0,h⟩:=h
 simp only[X27,List.all_eq_true] at h0
 cases hv with | agg _ vs f hs hf hone hrr=>
 let pk:Nat->Bool:=fun i=>match cs[i]? with
  | some (.own r _)=>Nv rs r
  | _=>false
 have hrep:RepA S w φ ob (.agg (OE rs cs)) (.agg (Array.ofFn (n:=cs.length) fun i=>if pk i then .slice none 0 0 else f i)):=by
  rw[RX]
  refine .agg _ _ (fun i=>if pk i then .slice none 0 0 else f i) (by simp) (fun i hi=>?_) (fun i hi=>?_) fun i hi=>?_
  ·have hi:i<cs.length:=by simpa using hi
   simp[hi]
  ·have hi':i<cs.length:=by simpa using hi
   rw[List.getElem_map]
   have:=hone i hi'
   revert this
   generalize cs[i]=c
   intro this
   cases c<;>simp only[blF]<;>first | exact this | (split<;>first | rfl | exact this)
  have hi':i<cs.length:=by simpa using hi
  rw[List.getElem_map]
  have h1:=hrr i hi'
  have h2:pk i=match cs[i] with
   | .own r _=>Nv rs r
   | _=>false:=by simp only[pk,X15 hi'];generalize cs[i]=c;cases c<;>rfl
  revert h1 h2
  generalize cs[i]=c
  intro h1 h2
  cases c<;>simp only[blF]<;>simp only at h2<;>(try (rw[if_neg (by simp[h2])];exact h1))
  rename_i r n
  cases hb:Nv rs r with
  | true=>rw[if_pos (by rw[h2,hb])];exact .d _ _ (.nil 1)
  | false=>rw[if_neg (by rw[h2,hb];simp)];exact h1
 obtain⟨y,wr,S',h1,h2,h3,h4,h5,h6⟩:=Dt m hx hrep h
 cases y with
 | agg ds=>
  simp only[AD] at h1
  obtain⟨hw,hK⟩:=h1
  have hw' :∀q∈wr,np<=q.1/\q.1∉rs:=fun q hq=>by
   have:=List.all_eq_true.1 hw q hq
   simp only[X27,Bool.not_eq_true'] at this
   exact⟨X29 this.1,fun e=>by rw[WU.2 e] at this;simp at this⟩
  cases h4 with | agg _ _ g gs gf gn gr=>
  have hlen:ds.length=cs.length:=by simpa using gs.symm
  rw[V7] at hK
  have hml:(List.zipWith (mxF np rs) cs ds).length=cs.length:=by simp[hlen]
  refine⟨_,wr,S',hK,h2,h3,h5,hw',Rw h0.1,fun r hr=>X29 (h0.2 r hr),fun φ' ob' he=>?_,fun q hq=>?_⟩
  ·refine .agg _ _ f (by omega) (fun i hi=>hf i (by omega)) (fun i hi=>?_) fun i hi=>?_
   ·have hi':i<ds.length:=by omega
    rw[List.getElem_zipWith]
    have hn:=gn i hi'
    generalize cs[i]'(by omega)=c
    have hd :∀d:D,d.isAgg=false->(AV.d d).one=true:=fun d hd=>by simp[AV.one,hd]
    cases c<;>simp only[mxF]<;>first | exact hd _ hn | (split<;>first | rfl | exact hd _ hn)
   have hi':i<ds.length:=by omega
   have hi2:i<cs.length:=by omega
   rw[List.getElem_zipWith]
   have q1:=hrr i hi2
   have q2:=gr i hi'
   have q3:=gf i hi'
   have h2:pk i=match cs[i] with
    | .own r _=>Nv rs r
    | _=>false:=by simp only[pk,X15 hi2];generalize cs[i]=c;cases c<;>rfl
   have q4:pk i=false->RepA S' w φ' ob' (.d ds[i]) (f i):=by
    intro hp
    have:g i=f i:=by
     simp only[Array.getElem?_ofFn,hi2,dif_pos,hp] at q3
     simpa using q3.symm
    rw[<- this]
    exact .d _ _ q2
   revert q1 h2
   generalize cs[i]=c
   intro q1 h2
   cases c<;>simp only[mxF]<;>simp only at h2<;>(try exact q4 h2)
   rename_i r n
   split
   ·rename_i k hk
    have hk2:=Oj hk
    obtain⟨hk3,hk4⟩:=X16.1 hk2
    obtain⟨e1,e2⟩:=he k hk3
    rw[hk4] at e1 e2
    cases q1 with | own _ _ _ kk c a0 hv' hk h1' hb=>
    refine .own _ n _ kk c a0 hv' hk (fun e' sz' es' f' hx=>?_) fun cs hx=>?_
    ·obtain⟨g1,g2⟩:=h1' e' sz' es' f' (e2.symm.trans hx)
     refine⟨g1,fun hn=>?_⟩
     have:=g2 hn
     unfold IR at *
     rwa [e1]
    obtain⟨g1,b,c',g2,g3⟩:=hb cs (e2.symm.trans hx)
    exact⟨g1,b,c',e1.trans g2,g3⟩
   rename_i hk
   exact q4 (h2.trans (UD hk))
  obtain⟨c,hc1,hc2⟩:=AV.refs_mem' _ q (by simpa[AV.refs] using hq)
  obtain⟨i,hi,rfl⟩:=List.getElem_of_mem hc1
  rw[List.getElem_zipWith] at hc2
  revert hc2
  generalize cs[i]'(by omega)=c
  intro hc2
  cases c<;>simp only[mxF] at hc2<;>(try (simp[AV.refs] at hc2;done))
  split at hc2
  ·rename_i k hk
   have:=(X16.1 (Oj hk)).1
   exact⟨k,this,by simpa[AV.refs] using hc2⟩
  simp[AV.refs] at hc2
 | _=>exact h1.elim
theorem Pq {obl:List (Option OB)} :∀{rs:List Nat} {K:List OB->Prop},Lj obl rs K->∃os,K os/\os.length=rs.length/\∀i (hi:i<os.length) (hi':i<rs.length),obf obl rs[i]=some os[i]/\BO os[i]=true
 | [],K,h=>⟨[],h,rfl,fun i hi=>by simp at hi⟩
 | r::rs,K,h=>by
  simp only[Lj,A0] at h
  obtain⟨o,ho,h⟩:=h
  cases o with
  | row e sz es f=>
   simp only[AD] at h
   obtain⟨hlk,h⟩:=h
   obtain⟨os,g1,g2,g3⟩:=Pq h
   refine⟨_,g1,by simp[g2],fun i hi hi'=>?_⟩
   cases i with
   | zero=>exact⟨ho,hlk⟩
   | succ i=>exact g3 i (by simpa using hi) (by simpa using hi')
  | _=>exact h.elim
theorem Rf {obl:List (Option OB)}{ob:Nat->Option OB}{np:Nat}(m:Mem E w S φ ob)(hx:FrzExt (obf obl) ob){x:AV}{v:Value}{K:AV->Option Nat->Prop}(hv:RepA S w φ ob x v)(hc:Closed (obf obl) x)(h:XC np obl x K) :
  ∃x' nw wr S',K x' nw/\Mem E w S' φ (Ar ob wr)/\Kept w S φ ob w S' φ (Ar ob wr)/\FrzExt (obf obl) (Ar ob wr)/\(∀q∈wr,np<=q.1)/\
   ((nw=none/\RepA S' w φ (Ar ob wr) x' v/\Closed (obf obl) x'/\∀r∈x'.refs,r<np) \/∃r,nw=some r/\np<=r/\(∀q∈wr,q.1≠r)/\
    (∀(φ':Nat->Option (Nat×Rp)) (ob':Nat->Option OB),φ' np=φ r->ob' np=Ar ob wr r->RepA S' w φ' ob' x' v)/\∀q∈x'.refs,q=np):=by
 cases x<;>simp only[XC] at h
 case d y=>
  rw[EH] at h
  cases hv with | d _ _ hv=>
  exact⟨_,_,[],S,h,m,.refl _ _ _ _,hx,fun q hq=>by simp at hq,.inl ⟨rfl,.d _ _ hv.norm,BC _ _,fun r hr=>by simp[AV.refs] at hr⟩⟩
 case own r n=>
  split at h
  ·rename_i hb
   exact⟨_,_,[],S,h,m,.refl _ _ _ _,hx,fun q hq=>by simp at hq,.inl ⟨rfl,hv,hc,fun r' hr'=>by simp only[AV.refs,X14] at hr';rw[hr'];exact X29 hb⟩⟩
  rename_i hb
  have hge:np<=r:=by
   refine Nat.le_of_not_lt fun hlt=>?_
   rw[show Nat.blt r np=true from Nat.ble_eq_true_of_le hlt] at hb
   simp at hb
  rcases h with h | h
  ·have h0:=h
   simp only[toD,A0] at h0
   obtain⟨y,wr,S',h1,h2,h3,h4,h5,h6⟩:=Dt (K:=fun x w=>K (.d x) none/\∀q∈w,np<=q.1) m hx hv (by
    obtain⟨o,ho,h0⟩:=h0
    simp only[toD,A0]
    refine⟨o,ho,?_⟩
    cases o with
    | box=>exact h0
    | map=>exact h0
    | gone=>exact h0
    | amap=>exact h0
    | row e sz es f=>exact⟨h0.1,h0.2,fun q hq=>by simp only[X14] at hq;rw[hq];exact hge⟩)
   exact⟨_,_,wr,S',h1.1,h2,h3,h5,h1.2,.inl ⟨rfl,.d _ _ h4,BC _ _,fun r hr=>by simp[AV.refs] at hr⟩⟩
  refine⟨_,_,[],S,h,m,.refl _ _ _ _,hx,fun q hq=>by simp at hq,.inr ⟨r,rfl,hge,fun q hq=>by simp at hq,fun φ' ob' e1 e2=>?_,fun q hq=>by simpa[AV.refs] using hq⟩⟩
  cases hv with | own _ _ _ k c a0 hv' hk h1' hb=>
  refine .own _ n _ k c a0 hv' hk (fun e' sz' es f' hx=>?_) fun cs hx=>?_
  ·obtain⟨g1,g2⟩:=h1' e' sz' es f' (e2.symm.trans hx)
   refine⟨g1,fun hn=>?_⟩
   have:=g2 hn
   unfold IR at *
   rwa [e1]
  obtain⟨g1,b,c',g2,g3⟩:=hb cs (e2.symm.trans hx)
  exact⟨g1,b,c',e1.trans g2,g3⟩
 case agg cs=>
  obtain⟨y,wr,S',h1,h2,h3,h4,h5,h6⟩:=Dt m hx hv h
  rw[AD] at h1
  refine⟨_,_,wr,S',h1.2,h2,h3,h5,fun q hq=>?_,.inl ⟨rfl,.d _ _ h4,BC _ _,fun r hr=>by simp[AV.refs] at hr⟩⟩
  have:=h1.1
  simp only[List.all_eq_true] at this
  exact X29 (this q hq)
 case mp r=>
  split at h
  ·rename_i hb
   exact⟨_,_,[],S,h,m,.refl _ _ _ _,hx,fun q hq=>by simp at hq,.inl ⟨rfl,hv,hc,fun r' hr'=>by simp only[AV.refs,X14] at hr';rw[hr'];exact X29 hb⟩⟩
  rename_i hb
  have hge:np<=r:=by
   refine Nat.le_of_not_lt fun hlt=>?_
   rw[show Nat.blt r np=true from Nat.ble_eq_true_of_le hlt] at hb
   simp at hb
  refine⟨_,_,[],S,h,m,.refl _ _ _ _,hx,fun q hq=>by simp at hq,.inr ⟨r,rfl,hge,fun q hq=>by simp at hq,fun φ' ob' e1 e2=>?_,fun q hq=>by simpa[AV.refs] using hq⟩⟩
  cases hv with | mp _ b c hφ hb hc'=>
  exact .mp _ b c (e1.trans hφ) (fun e' sz' es f' hx=>hb e' sz' es f' (e2.symm.trans hx)) fun cs hx=>hc' cs (e2.symm.trans hx)
 case ref r off=>
  split at h
  ·rename_i hb
   exact⟨_,_,[],S,h,m,.refl _ _ _ _,hx,fun q hq=>by simp at hq,.inl ⟨rfl,hv,hc,fun r' hr'=>by simp only[AV.refs,X14] at hr';rw[hr'];exact X29 hb⟩⟩
  rename_i hb
  have hge:np<=r:=by
   refine Nat.le_of_not_lt fun hlt=>?_
   rw[show Nat.blt r np=true from Nat.ble_eq_true_of_le hlt] at hb
   simp at hb
  refine⟨_,_,[],S,h,m,.refl _ _ _ _,hx,fun q hq=>by simp at hq,.inr ⟨r,rfl,hge,fun q hq=>by simp at hq,fun φ' ob' e1 e2=>?_,fun q hq=>by simpa[AV.refs] using hq⟩⟩
  cases hv with | ref _ _ b c hφ hb=>
  exact .ref _ off b c (e1.trans hφ) fun e' sz' es f' hx=>hb e' sz' es f' (e2.symm.trans hx)
theorem PD {obl:List (Option OB)}{np:Nat} :∀{xs:List AV} {vs:List Value} {S:Sc} {ob:Nat->Option OB} {K:List AV->Prop} (_:Mem E w S φ ob) (_:FrzExt (obf obl) ob) (_:All2 (fun x v=>RepA S w φ ob x v/\Closed (obf obl) x) xs vs) (_:Vo np obl xs K),
  ∃xs' wr S',K xs'/\Mem E w S' φ (Ar ob wr)/\Kept w S φ ob w S' φ (Ar ob wr)/\FrzExt (obf obl) (Ar ob wr)/\(∀q∈wr,np<=q.1)/\All2 (fun x v=>RepA S' w φ (Ar ob wr) x v/\Closed (obf obl) x/\∀r∈x.refs,r<np) xs' vs
 | [],[],S,ob,K,m,hx,_,h=>⟨[],[],S,h,m,.refl _ _ _ _,hx,fun q hq=>by simp at hq,.nil⟩
 | x::xs,v::vs,S,ob,K,m,hx,hv,h=>by
  cases hv with | cons h1 h2=>
  simp only[Vo] at h
  obtain⟨x',nw,wr,S1,hK,m1,k1,hx1,hw1,hr⟩:=Rf m hx h1.1 h1.2 h
  rcases hr with ⟨rfl,r1,r2,r3⟩|⟨r,rfl,_⟩
  ·simp only at hK
   have hcl :∀{r:Nat},obf obl r≠none->ob r≠none:=by
    intro r hr
    rcases hx r with e1 | ⟨e,sz,es,f,e1,e2⟩
    ·rw[e1];exact hr
    rw[e2];simp
   have hcl1 :∀{r:Nat},obf obl r≠none->Ar ob wr r≠none:=by
    intro r hr
    rcases hx1 r with e1 | ⟨e,sz,es,f,e1,e2⟩
    ·rw[e1];exact hr
    rw[e2];simp
   obtain⟨xs',wr2,S2,g1,g2,g3,g4,g5,g6⟩:=PD m1 hx1 (h2.imp fun a v hav=>⟨k1.rep (fun r hr=>hcl (hav.2 r hr)) hav.1,hav.2⟩) hK
   refine⟨x'::xs',wr++wr2,S2,g1,by rw[AU];exact g2,by rw[AU];exact k1.trans g3,by rw[AU];exact g4,fun q hq=>?_,?_⟩
   ·rcases X23.1 hq with hq | hq
    ·exact hw1 q hq
    exact g5 q hq
   rw[AU]
   exact .cons ⟨g3.rep (fun r hr=>hcl1 (r2 r hr)) r1,r2,r3⟩ g6
  exact hK.elim
 | [],_::_,_,_,_,_,_,hv,_=>by cases hv
 | _::_,[],_,_,_,_,_,hv,_=>by cases hv
theorem NZ {ob:Nat->Option OB}{idx:List Nat}{objs:List OB}{np:Nat}{x:AV}{v:Value}(h:RepA S w φ ob x v)(hr :∀r∈x.refs,r<np)(hi :∀r,r<np->idx[r]?=some r)(ho :∀r,r<np->ofL objs r=ob r) :
  RepA S w (sel idx φ) (ofL objs) x v:=by
 refine h.mono (fun _ _ h=>⟨h,rfl⟩) fun r hr'=>.inl ?_
 have:=hr r hr'
 simp[sel,hi r this,ho r this]
theorem XK {wl : WL}{cx : Cx}(hT : TabOk P cx.T)(hC : P7 wl P cx)(hD : U4 wl P cx){f : FuncId}{fn : Func}(hf : P.funcs[f]? = some fn)(hname : fn.name ≠ "runtime.NumGoroutine")
  {args:List AV} {objs:List OB} {res:AV} {objs':List OB} (h:ax cx fn args objs fun r o=>r=res/\o=objs'):CallsOK wl P f args objs res objs':=by
 obtain⟨hnp,h⟩:=h
 cases hb:fn.body with
 | none=>simp[hb] at h
 | some c=>
  simp only[hb] at h
  refine⟨⟨fn,hf,hname,by rw[hb];rfl⟩,fun w S φ gb hg vals hsz hargs hnone m=>?_⟩
  have hobf:obf (Q3 cx.ex fn args objs).ob=ofL objs:=by
   funext r
   simp only[obf,Q3,ofL,List.getD_eq_getElem?_getD]
   by_cases hr:r<objs.length
   ·rw[List.getElem?_append_left (by simpa using hr)]
    simp[hr]
   rw[List.getElem?_append_right (by simpa using hr)]
   simp only[X10,List.getElem?_replicate]
   split<;>simp[show objs.length<=r by omega]
  refine calls_of_wp hf hb (Pj (E:=⟨w,S,Iq φ objs.length,wl,gb,hg⟩) (tr:=⟨objs.length,φ,ofL objs⟩) hT hC hD hnp.symm c h ⟨S,φ,⟨?_,fun i hi=>?_,rfl,by rw[hobf];exact m⟩,fun r hr h0=>?_⟩ ?_)
  ·simp[Q3,hsz]
  ·rw[hobf]
   simp only[Q3,List.getElem_append]
   split
   ·rename_i hlt
    have:=hargs i hlt
    have e:(vals++Array.replicate (fn.ntmps-vals.size) undef).getD i undef=vals.getD i undef:=by
     have:i<vals.size:=by omega
     simp[Array.getElem?_append_left this]
    rw[e];exact this
   rw[List.getElem_replicate]
   exact⟨.dead _,GK _⟩
  ·rw[hobf]
   refine⟨by simp only[ofL];rw[X15 hr];simp,.refl _ _ _⟩
  ·
   intro e st a w' hl hR
   obtain⟨S1,φ1,hR,htr⟩:=hR
   have hne :∀id,e≠.exit id:=fun id he=>by subst he;exact hl
   have hl':UM cx st fn.results.toList (fun asz=>Jk st.ob cx.np 0 fun objs=>(match asz with
    | [a]=>leave1 cx.np st.ob (fun r o=>r=res/\o=objs') a objs
    | asz=>Vo cx.np st.ob asz fun asz'=>.tup asz'=res/\objs=objs')):=by
    cases e with
    | exit id=>exact absurd rfl (hne id)
    | normal=>exact hl
    | ret=>exact hl
   obtain⟨asz,us,h1,h2,h3⟩:=JL hT hR hl'
   obtain⟨obs,h1,ho1,ho2⟩:=NW h1
   simp only[Nat.zero_add] at ho2
   rw[hnp] at ho1 h1
   have hrun:=Pi h2
   suffices hend :∃v,(results fn a.tmps).run P w'=.ok v w'/\∃S' φ',Mem ⟨w,S,Iq φ objs.length,wl,gb,hg⟩ w' S' φ' (ofL objs')/\Kept w S φ (ofL objs) w' S' φ' (ofL objs')/\RepA S' w' φ' (ofL objs') res v/\Closed (ofL objs') res by
    obtain⟨v,g1,g2⟩:=hend
    have:a.defers=[]/\∃v,(results fn a.tmps).run P w'=.ok v w'/\∃v',Ending.returned v=.returned v'/\∃S' φ',Mem ⟨w,S,Iq φ objs.length,wl,gb,hg⟩ w' S' φ' (ofL objs')/\Kept w S φ (ofL objs) w' S' φ' (ofL objs')/\RepA S' w' φ' (ofL objs') res v'/\Closed (ofL objs') res:=
     ⟨hR.df,v,g1,v,rfl,g2⟩
    cases e with
    | exit id=>exact absurd rfl (hne id)
    | normal=>exact this
    | ret=>exact this
   have fin :∀{S':Sc} {ob:Nat->Option OB} {idx:List Nat} {x:AV} {v:Value} (_:Mem ⟨w,S,Iq φ objs.length,wl,gb,hg⟩ w' S' φ1 ob) (_ :∀r,r<objs.length->ob r=obf st.ob r) (_:idx.Nodup) (_:idx.length=objs'.length)
     (_ :∀i (hi:i<idx.length) (hi':i<objs'.length),ob idx[i]=some objs'[i]/\BO objs'[i]=true) (_ :∀r,r<objs.length->idx[r]?=some r) (_:NN S1 w' S' w')
     (_:RepA S' w' (sel idx φ1) (ofL objs') x v) (_:Closed (ofL objs') x),∃S' φ',Mem ⟨w,S,Iq φ objs.length,wl,gb,hg⟩ w' S' φ' (ofL objs')/\Kept w S φ (ofL objs) w' S' φ' (ofL objs')/\RepA S' w' φ' (ofL objs') x v/\Closed (ofL objs') x:=by
    intro S' ob idx x v m' hob hn hl ho hi hk hv hc
    refine⟨S',_,m'.restrict hn hl ho,⟨fun b o hS=>⟨m'.sS b o hS,m'.kS b o hS⟩,fun r hr=>?_,fun r hr=>?_⟩,hv,hc⟩
    ·have hlt:r<objs.length:=by
      refine Nat.lt_of_not_le fun hge=>hr ?_
      simp[ofL,hge]
     obtain⟨q1,q2⟩:=htr r hlt (by simp[ofL,hlt])
     have e1:sel idx φ1 r=φ1 r:=by simp[sel,hi r hlt]
     have hlt2:=(X16.1 (hi r hlt)).1
     have e3:idx[r]=r:=(X16.1 (hi r hlt)).2
     have e2:ofL objs' r=obf st.ob r:=by
      have:=(ho r hlt2 (by omega)).1
      rw[e3,hob r hlt] at this
      rw[this]
      simp[ofL,show r<objs'.length by omega]
     unfold RefOK at q2 ⊢
     rw[e1,e2]
     exact q2
    have hlt:r<objs.length:=by
     refine Nat.lt_of_not_le fun hge=>hr ?_
     simp[ofL,hge]
    have hlt2:=(X16.1 (hi r hlt)).1
    simp only[ofL]
    rw[X15 (show r<objs'.length by omega)]
    simp
   have hcl :∀{ob:Nat->Option OB},FrzExt (obf st.ob) ob->∀{wr:W},True:=fun _ {_}=>trivial
   have hrange :∀r,r<objs.length->(List.range objs.length)[r]?=some r:=fun r hr=>by simp[hr]
   have hoff :∀{wr:W} {r:Nat},(∀q∈wr,objs.length<=q.1)->r<objs.length->Ar (obf st.ob) wr r=obf st.ob r:=fun hw hr=>EZ _ _ _ fun q hq e=>by have:=hw q hq;omega
   split at h1
   ·
    rename_i x _
    cases h3 with | cons hv hrest=>
    cases hrest
    rename_i u
    have h1:(XC objs.length st.ob x fun a' nw=>(match nw with
     | none=>a'=res/\obs=objs'
     | some r=>DD st.ob r fun o=>match o with
      | .box cs=>HB.cellsD cs fun cs=>a'=res/\obs++[.box cs]=objs'
      | .row e sz es frz=>AY (!frz.linked) (a'=res/\obs++[.row e sz es frz]=objs')
      | .map k e es=>a'=res/\obs++[.map k e es]=objs'
      | .amap ..=>False
      | .gone=>False))\/(∃sz e,x=.d (.nil sz)/\0<sz/\AV.own objs.length 0=res/\obs++[.row e sz [] .no]=objs') \/
       (∃cs rs,x=.agg cs/\UU objs.length st.ob rs cs fun x=>Lj st.ob rs fun os=>x=res/\obs++os=objs') \/
       ∃r n e sz es,x=.own r n/\r<objs.length/\obs[r]?=some (.row e sz es .no)/\AV.own objs.length n=res/\obs.set r .gone++[.row e sz es .no]=objs':=by
     unfold leave1 at h1
     split at h1
     ·rename_i sz _
      rcases h1 with h1 | ⟨h0,e,h1,h2⟩
      ·exact .inl (by simpa[XC,O9] using h1)
      exact .inr (.inl ⟨sz,e,rfl,h0,h1,h2⟩)
     ·rcases h1 with h1 | ⟨rs,h1⟩
      ·exact .inl h1
      exact .inr (.inr (.inl ⟨_,rs,rfl,h1⟩))
     ·rcases h1 with h1 | h1
      ·exact .inl h1
      rw[AD] at h1
      obtain⟨hb,h1⟩:=h1
      split at h1
      ·rename_i e sz es hg
       exact .inr (.inr (.inr ⟨_,_,e,sz,es,rfl,X29 hb,hg,h1.1,h1.2⟩))
      exact h1.elim
     exact .inl h1
    rcases h1 with h1 | ⟨sz,e,rfl,h0,rfl,rfl⟩|⟨cs,rs,rfl,h9⟩|⟨r,n,e,sz,es,rfl,hrl,hgr,rfl,rfl⟩
    rotate_right
    ·
     have hfree:obf st.ob (st.ob.length+objs.length)=none:=by simp[obf]
     have hor:obf st.ob r=some (.row e sz es .no):=by
      have h2:=(ho2 r (by omega)).1
      rw[X15 (by omega)] at hgr
      rw[X25 hgr] at h2
      exact h2
     have hown:=hv.1
     cases hown with | own _ _ _ k c a0 hv' hk h1' hb=>
     obtain⟨hn1,hn2⟩:=h1' e sz es .no hor
     obtain⟨g0,_,_,g3⟩:=hR.mem.obj r _ hor
     have hp :∃p:Option (Nat×Rp),((p=none/\es=[]) \/∃b c c',φ1 r=some (b,c)/\p=some (b,(c',c.2+0*sz))/\es.length<=c'/\0+c'<=c.1)/\p=φ1 r:=by
      rcases g3 with ⟨f1,f2⟩|⟨b,cap,vs,f,f1,f2,f3,f4,f5,f6,f7,f8⟩
      ·exact⟨none,.inl ⟨rfl,f2⟩,f1.symm⟩
      exact⟨some (b,(cap.1,cap.2+0*sz)),.inr ⟨b,cap,cap.1,f1,rfl,f3,by omega⟩,by rw[f1];simp⟩
     obtain⟨p,hp1,hp2⟩:=hp
     obtain⟨m1,k1⟩:=hR.mem.moveAt r (st.ob.length+objs.length) e sz 0 es es p hor hfree (by omega) (fun i hi=>by simp) hp1
     have htr1:=Trk.ok.kept htr k1
     refine⟨_,hrun,?_⟩
     have hne :∀q,q<objs.length->q≠st.ob.length+objs.length:=fun q hq=>by omega
     have hidx:(List.range objs.length++[st.ob.length+objs.length]).Nodup:=by
      rw[List.nodup_append]
      exact⟨List.nodup_range,by simp,fun a ha b hb=>by simp at ha hb;omega⟩
     have hob2 :∀i (hi:i<objs.length),upd (upd (obf st.ob) r (some .gone)) (st.ob.length+objs.length) (some (.row e sz es .no)) i=some ((obs.set r .gone)[i]'(by simp;omega))/\BO ((obs.set r .gone)[i]'(by simp;omega))=true:=fun i hi=>by
      rw[AQ _ _ _ _ (hne i hi)]
      by_cases hir:i=r
      ·subst hir
       rw[upd_same]
       simp[BO]
      rw[AQ _ _ _ _ hir,List.getElem_set_ne (Ne.symm hir)]
      exact ho2 i (by omega)
     have hmem:=m1.restrict (objs:=obs.set r .gone++[.row e sz es .no]) hidx (by simp[ho1]) (fun i hi hi'=>by
      simp only[X11,List.length_range,X22] at hi
      by_cases hlt:i<objs.length
      ·rw[List.getElem_append_left (by simpa using hlt),List.getElem_append_left (by simp;omega)]
       simp only[List.getElem_range]
       exact hob2 i hlt
      have:i=objs.length:=by omega
      subst this
      rw[List.getElem_append_right (by simp),List.getElem_append_right (by simp;omega)]
      simp only[List.length_range,Nat.sub_self,List.getElem_cons_zero,X21,ho1]
      exact⟨upd_same _ _ _,rfl⟩)
     have hofl:ofL (obs.set r .gone++[.row e sz es .no]) objs.length=some (.row e sz es .no):=by
      simp only[ofL]
      rw[List.getElem?_append_right (by simp;omega)]
      simp[ho1]
     have hsel:sel (List.range objs.length++[st.ob.length+objs.length]) (upd (upd φ1 r none) (st.ob.length+objs.length) p) objs.length=φ1 r:=by
      simp only[sel]
      rw[List.getElem?_append_right (by simp)]
      simp[hp2]
     refine⟨S1,_,hmem,⟨fun b o hS=>⟨m1.sS b o hS,m1.kS b o hS⟩,fun q hq=>?_,fun q hq=>?_⟩,?_,?_⟩
     ·have hlt:q<objs.length:=by
       refine Nat.lt_of_not_le fun hge=>hq ?_
       simp[ofL,hge]
      obtain⟨q1,q2⟩:=htr1 q hlt (by simp[ofL,hlt])
      have e1:sel (List.range objs.length++[st.ob.length+objs.length]) (upd (upd φ1 r none) (st.ob.length+objs.length) p) q=upd (upd φ1 r none) (st.ob.length+objs.length) p q:=by
       simp only[sel]
       rw[List.getElem?_append_left (by simpa using hlt)]
       simp[hlt]
      have e2:ofL (obs.set r .gone++[.row e sz es .no]) q=upd (upd (obf st.ob) r (some .gone)) (st.ob.length+objs.length) (some (.row e sz es .no)) q:=by
       rw[(hob2 q hlt).1]
       simp only[ofL]
       rw[List.getElem?_append_left (by simp;omega),X15]
      unfold RefOK at q2 ⊢
      rw[e1,e2]
      exact q2
     ·have hlt:q<objs.length:=by
       refine Nat.lt_of_not_le fun hge=>hq ?_
       simp[ofL,hge]
      simp only[ofL]
      rw[List.getElem?_append_left (by simp;omega)]
      simp[ho1,hlt]
     ·refine .own _ n _ k c a0 hv' hk (fun e' sz' es' f' hx=>?_) fun cs hx=>?_
      ·rw[hofl] at hx
       simp only[X24,OB.row.injEq] at hx
       obtain⟨rfl,rfl,rfl,rfl⟩:=hx
       refine⟨hn1,fun hn=>?_⟩
       have:=hn2 hn
       unfold IR at *
       rwa [hsel]
      rw[hofl] at hx;simp at hx
     intro q hq
     have:q=objs.length:=by simpa[AV.refs] using hq
     rw[this,hofl]
     simp
    rotate_right
    ·
     obtain⟨x',wr,S',hK,m1,k1,hx1,hw1,hnd,hge,hrep,hrefs⟩:=U2 hR.mem (FrzExt.refl _) hv.1 h9
     obtain⟨os,⟨rfl,rfl⟩,hol,hos⟩:=Pq hK
     refine⟨u,hrun,?_⟩
     have hg1 :∀q∈wr,objs.length<=q.1:=fun q hq=>(hw1 q hq).1
     have hget :∀k (hk:k<rs.length),(List.range objs.length++rs)[objs.length+k]?=some rs[k]:=fun k hk=>by
      rw[List.getElem?_append_right (by simp)]
      simp[hk]
     have hgo :∀k (hk:k<rs.length),ofL (obs++os) (objs.length+k)=some (os[k]'(by omega)):=fun k hk=>by
      simp only[ofL]
      rw[List.getElem?_append_right (by omega),ho1,Nat.add_sub_cancel_left]
      simp[show k<os.length by omega]
     have hor :∀k (hk:k<rs.length),Ar (obf st.ob) wr rs[k]=some (os[k]'(by omega)):=fun k hk=>by
      rw[EZ _ _ _ fun q hq e=>(hw1 q hq).2 (e ▸ List.getElem_mem hk)]
      exact (hos k (by omega) hk).1
     have hidx:(List.range objs.length++rs).Nodup:=by
      rw[List.nodup_append]
      exact⟨List.nodup_range,hnd,fun a ha b hb e=>by
       have:=hge b hb
       simp at ha
       omega⟩
     refine fin m1 (fun r hr=>hoff hg1 hr) hidx (by simp[ho1,hol]) (fun i hi hi'=>?_) (fun q hq=>?_) k1.k (hrep _ _ fun k hk=>⟨?_,?_⟩) fun q hq=>?_
     ·simp only[X11,List.length_range] at hi
      by_cases hlt:i<objs.length
      ·rw[List.getElem_append_left (by simpa using hlt),List.getElem_append_left (by omega)]
       simp only[List.getElem_range]
       rw[hoff hg1 hlt]
       exact ho2 i (by omega)
      rw[List.getElem_append_right (by simp;omega),List.getElem_append_right (by omega)]
      simp only[List.length_range,ho1]
      exact⟨hor _ (by omega),(hos _ (by omega) (by omega)).2⟩
     ·rw[List.getElem?_append_left (by simpa using hq)]
      exact hrange q hq
     ·simp only[sel,hget k hk,Option.bind_some]
     ·rw[hgo k hk]
      exact (hos k (by omega) hk).1.symm
     obtain⟨k,hk,rfl⟩:=hrefs q hq
     rw[hgo k hk]
     simp
    rotate_left
    ·
     cases hv.1 with | d _ _ hn=>
     cases hn with | nil=>
     have hfree:obf st.ob (st.ob.length+objs.length)=none:=by simp[obf]
     obtain⟨m1,k1⟩:=hR.mem.empty (st.ob.length+objs.length) e sz hfree h0
     refine⟨_,hrun,?_⟩
     have hne :∀q,q<objs.length->q≠st.ob.length+objs.length:=fun q hq=>by omega
     have hob :∀q,q<objs.length->obf st.ob q=ofL obs q:=fun q hq=>by
      have:=(ho2 q (by omega)).1
      simp only[obf,this,ofL]
      simp[show q<obs.length by omega]
     have hidx:(List.range objs.length++[st.ob.length+objs.length]).Nodup:=by
      rw[List.nodup_append]
      exact⟨List.nodup_range,by simp,fun a ha b hb=>by simp at ha hb;omega⟩
     have hmem:=m1.restrict (objs:=obs++[.row e sz [] .no]) hidx (by simp[ho1]) (fun i hi hi'=>by
      simp only[X11,List.length_range,X22] at hi
      by_cases hlt:i<objs.length
      ·rw[List.getElem_append_left (by simpa using hlt),List.getElem_append_left (by omega)]
       simp only[List.getElem_range]
       rw[AQ _ _ _ _ (hne i hlt)]
       exact ho2 i (by omega)
      have:i=objs.length:=by omega
      subst this
      rw[List.getElem_append_right (by simp),List.getElem_append_right (by omega)]
      simp only[List.length_range,Nat.sub_self,List.getElem_cons_zero,ho1]
      exact⟨upd_same _ _ _,rfl⟩)
     have hofl:ofL (obs++[.row e sz [] .no]) objs.length=some (.row e sz [] .no):=by
      simp only[ofL]
      rw[List.getElem?_append_right (by omega)]
      simp[ho1]
     refine⟨S1,_,hmem,⟨fun b o hS=>⟨m1.sS b o hS,m1.kS b o hS⟩,fun r hr=>?_,fun r hr=>?_⟩,?_,?_⟩
     ·have hlt:r<objs.length:=by
       refine Nat.lt_of_not_le fun hge=>hr ?_
       simp[ofL,hge]
      obtain⟨q1,q2⟩:=htr r hlt (by simp[ofL,hlt])
      have e1:sel (List.range objs.length++[st.ob.length+objs.length]) (upd φ1 (st.ob.length+objs.length) none) r=φ1 r:=by
       simp only[sel]
       rw[List.getElem?_append_left (by simpa using hlt)]
       simp[hlt,AQ _ _ _ _ (hne r hlt)]
      have e2:ofL (obs++[.row e sz [] .no]) r=obf st.ob r:=by
       rw[hob r hlt]
       simp only[ofL]
       rw[List.getElem?_append_left (by omega)]
      unfold RefOK at q2 ⊢
      rw[e1,e2]
      exact q2
     ·have hlt:r<objs.length:=by
       refine Nat.lt_of_not_le fun hge=>hr ?_
       simp[ofL,hge]
      simp only[ofL]
      rw[List.getElem?_append_left (by omega)]
      simp[ho1,hlt]
     ·refine .own _ 0 _ 0 0 none rfl rfl (fun e' sz' es' f' hx=>?_) fun cs hx=>?_
      ·rw[hofl] at hx
       simp only[X24,OB.row.injEq] at hx
       obtain⟨rfl,rfl,rfl,rfl⟩:=hx
       refine⟨Nat.le_refl _,fun _=>.inl ⟨?_,rfl,_,rfl⟩⟩
       simp only[sel]
       rw[List.getElem?_append_right (by simp)]
       simp
      rw[hofl] at hx;simp at hx
     intro q hq
     have:q=objs.length:=by simpa[AV.refs] using hq
     rw[this,hofl]
     simp
    obtain⟨x',nw,wr,S',hK,m1,k1,hx1,hw1,hr⟩:=Rf hR.mem (FrzExt.refl _) hv.1 hv.2 h1
    refine⟨u,hrun,?_⟩
    rcases hr with ⟨rfl,r1,r2,r3⟩|⟨r,rfl,hge,hwr,hxx,hxr⟩
    ·obtain⟨rfl,rfl⟩:=hK
     have hO :∀r,r<objs.length->ofL obs r=Ar (obf st.ob) wr r:=fun r hr=>by
      rw[hoff hw1 hr]
      have:=(ho2 r (by omega)).1
      simp only[obf,this,ofL]
      simp[show r<obs.length by omega]
     refine fin m1 (fun r hr=>hoff hw1 hr) List.nodup_range (by simp[ho1]) (fun i hi hi'=>?_) hrange k1.k (NZ r1 r3 hrange hO) fun r hr=>?_
     ·simp only[List.length_range] at hi
      simp only[List.getElem_range]
      rw[hoff hw1 hi]
      exact ho2 i hi'
     rw[hO r (r3 r hr),hoff hw1 (r3 r hr)]
     exact r2 r hr
    simp only[A0] at hK
    obtain⟨o,ho,hK⟩:=hK
    obtain⟨hcc,rfl,rfl⟩:BO o=true/\x'=res/\obs++[o]=objs':=by
     cases o with
     | box cs=>simpa only[IM] using hK
     | row e sz es f=>exact (AD _ _).1 hK
     | map k e es=>exact⟨rfl,hK⟩
     | amap=>exact hK.elim
     | gone=>exact hK.elim
    have hsel:sel (List.range objs.length++[r]) φ1 objs.length=φ1 r:=by
     simp only[sel]
     rw[List.getElem?_append_right (by simp)]
     simp
    have hofl:ofL (obs++[o]) objs.length=some o:=by
     simp only[ofL]
     rw[List.getElem?_append_right (by omega)]
     simp[ho1]
    have ho':Ar (obf st.ob) wr r=some o:=(EZ _ _ _ hwr).trans ho
    have hidx:(List.range objs.length++[r]).Nodup:=by
     rw[List.nodup_append]
     exact⟨List.nodup_range,by simp,fun a ha b hb=>by simp at ha hb;omega⟩
    refine fin m1 (fun r hr=>hoff hw1 hr) hidx (by simp[ho1]) (fun i hi hi'=>?_) (fun q hq=>?_) k1.k ?_ fun q hq=>?_
    ·simp only[X11,List.length_range,X22] at hi
     by_cases hlt:i<objs.length
     ·rw[List.getElem_append_left (by simpa using hlt),List.getElem_append_left (by omega)]
      simp only[List.getElem_range]
      rw[hoff hw1 hlt]
      exact ho2 i (by omega)
     have:i=objs.length:=by omega
     subst this
     rw[List.getElem_append_right (by simp),List.getElem_append_right (by omega)]
     simp only[List.length_range,Nat.sub_self,List.getElem_cons_zero,ho1]
     exact⟨ho',hcc⟩
    ·rw[List.getElem?_append_left (by simpa using hq)]
     exact hrange q hq
    ·exact hxx _ _ hsel (hofl.trans ho'.symm)
    rw[hxr q hq,hofl]
    simp
   ·
    rename_i hno
    obtain⟨xs',wr,S',hK,m1,k1,hx1,hw1,hr⟩:=PD hR.mem (FrzExt.refl _) h3 h1
    obtain⟨rfl,rfl⟩:=hK
    have hlen :∀{α β:Type} {l:List α} {k:List β} {R:α->β->Prop},All2 R l k->l.length=k.length:=by
     intro α β l k R h
     induction h with
     | nil=>rfl
     | cons _ _ ih=>simp[ih]
    have hget :∀{l:List AV} {k:List Value} {R:AV->Value->Prop},All2 R l k->∀i (hi:i<l.length),∃v,k[i]?=some v/\R l[i] v:=by
     intro l k R h
     induction h with
     | nil=>intro i hi;simp at hi
     | cons h _ ih=>
      intro i hi
      cases i with
      | zero=>exact⟨_,rfl,h⟩
      | succ i=>exact ih i (by simpa using hi)
    have hus:us.length≠1:=by
     intro he
     have:=hlen h3
     match asz,this with
     | [x],_=>exact hno x rfl
     | [],h=>simp at h;omega
     | _::_::_,h=>simp at h;omega
    have hval:aM us=.tuple us.toArray:=by
     match us,hus with
     | [],_=>rfl
     | [_],h=>exact absurd rfl h
     | _::_::_,_=>rfl
    rw[hval] at hrun
    refine⟨_,hrun,?_⟩
    have hO :∀r,r<objs.length->ofL obs r=Ar (obf st.ob) wr r:=fun r hr=>by
     rw[hoff hw1 hr]
     have:=(ho2 r (by omega)).1
     simp only[obf,this,ofL]
     simp[show r<obs.length by omega]
    refine fin m1 (fun r hr=>hoff hw1 hr) List.nodup_range (by simp[ho1]) (fun i hi hi'=>?_) hrange k1.k ?_ fun r hr'=>?_
    ·simp only[List.length_range] at hi
     simp only[List.getElem_range]
     rw[hoff hw1 hi]
     exact ho2 i hi'
    ·refine .tup xs' _ (fun i=>us.getD i undef) (by simp[hlen hr]) (fun i hi=>?_) fun i hi=>?_
     ·obtain⟨v,q1,_⟩:=hget hr i hi
      simp[q1]
     obtain⟨v,q1,q2,q3,q4⟩:=hget hr i hi
     simp only[List.getD_eq_getElem?_getD,q1,Option.getD_some]
     exact NZ q2 q4 hrange hO
    obtain⟨c,hc1,hc2⟩:=AV.refs_mem' xs' r (by simpa[AV.refs] using hr')
    obtain⟨j,hj,rfl⟩:=List.getElem_of_mem hc1
    obtain⟨v,q1,q2,q3,q4⟩:=hget hr j hj
    rw[hO r (q4 r hc2),hoff hw1 (q4 r hc2)]
    exact q3 r hc2
def WS (φ:Nat->Option (Nat×Rp))(ob:Nat->Option OB):Nat->Prop:=fun b=>∃r c,ob r≠none/\φ r=some (b,c)
theorem Mem.here {E:Env}{w:World}{S:Sc}{φ:Nat->Option (Nat×Rp)}{ob:Nat->Option OB}(m:Mem E w S φ ob) :
  Mem ⟨w,S,WS φ ob,E.wl,E.gb,m.glob fun _ h=>h⟩ w S φ ob:=
 ⟨m.obj,m.inj,m.men,fun _ _ h=>h,fun _ _ _=>rfl,m.bS,fun _ _ h _ _=>h,fun _ _ _=>rfl,Nat.le_refl _,fun r b c h1 h2=>⟨(m.ow r b c h1 h2).1,.inr ⟨r,c,h1,h2⟩⟩,⟨rfl,rfl,rfl,.inr (Nat.le_refl _)⟩⟩
theorem Mem.trans {E:Env}{w w':World}{S S':Sc}{φ φ':Nat->Option (Nat×Rp)}{ob ob':Nat->Option OB}(m:Mem E w S φ ob){hg:GlobOK E.wl E.gb (WS φ ob) S w}(m':Mem ⟨w,S,WS φ ob,E.wl,E.gb,hg⟩ w' S' φ' ob') :
  Mem E w' S' φ' ob':=by
 have hnb :∀b,b<E.w0.heap.size->¬ E.PB b->¬ WS φ ob b:=by
  rintro b h1 h2 ⟨r,c,h3,h4⟩
  rcases (m.ow r b c h3 h4).2 with h | h
  ·omega
  exact h2 h
 refine⟨m'.obj,m'.inj,m'.men,fun b o h=>m'.sS b o (m.sS b o h),fun b o h=>(m'.kS b o (m.sS b o h)).trans (m.kS b o h),m'.bS,fun b o h h1 h2=>?_,fun b h1 h2=>?_,Nat.le_trans m.sz m'.sz,fun r b c h1 h2=>?_,?_⟩
 ·exact m.nS b o (m'.nS b o h (Nat.lt_of_lt_of_le h1 m.sz) (hnb b h1 h2)) h1 h2
 ·exact (m'.fr b (Nat.lt_of_lt_of_le h1 m.sz) (hnb b h1 h2)).trans (m.fr b h1 h2)
 ·obtain⟨h3,h4⟩:=m'.ow r b c h1 h2
  refine⟨h3,?_⟩
  rcases h4 with h4 | ⟨r',c',h5,h6⟩
  ·exact .inl (Nat.le_trans m.sz h4)
  exact (m.ow r' b c' h5 h6).2
 obtain⟨a1,a2,a3,a4⟩:=m.os
 obtain⟨b1,b2,b3,b4⟩:=m'.os
 refine⟨b1.trans a1,b2.trans a2,b3.trans a3,?_⟩
 rcases a4 with a4 | a4
 ·exact .inl a4
 rcases b4 with b4 | b4
 ·exact .inl b4
 exact .inr (Nat.le_trans a4 b4)
theorem Ho :∀{ob:List (Option OB)} {n:Nat},Hy ob n=true->∀r,n<=r->ob.getD r none=none
 | [],_,_,r,_=>by simp
 | _::l,n+1,h,r+1,hr=>by simpa using Ho (ob:=l) (n:=n) (by simpa[Hy] using h) r (by omega)
 | none::l,0,h,0,_=>by simp
 | none::l,0,h,r+1,_=>by simpa using Ho (ob:=l) (n:=0) (by simpa[Hy] using h) r (by omega)
 | some _::_,0,h,_,_=>by simp[Hy] at h
theorem All2.getA {R:AV->Value->Prop} :∀{l:List AV} {k:List Value},All2 R l k->l.length=k.length/\∀i (hi:i<l.length),R l[i] (k.getD i undef)
 | _,_,.nil=>⟨rfl,fun i hi=>by simp at hi⟩
 | _,_,.cons h t=>by
  obtain⟨a,b⟩:=All2.getA t
  refine⟨by simp[a],fun i hi=>?_⟩
  cases i with
  | zero=>simpa using h
  | succ i=>simpa using b i (by simpa using hi)
theorem Ww {wl : WL}{cx : Cx}(hT : TabOk P cx.T)(hC : P7 wl P cx)(hD : U4 wl P cx){f : FuncId}{fn : Func}(hf : P.funcs[f]? = some fn)(hname : fn.name ≠ "runtime.NumGoroutine")
  {args:List AV} {ob:List (Option OB)} {K:AV->List (Option OB)->Prop} (h:dR cx fn args ob K):InlFn wl P f args ob K:=by
 obtain⟨hno,h⟩:=h
 cases hb:fn.body with
 | none=>simp[hb] at h
 | some c=>
  simp only[hb] at h
  refine⟨⟨fn,hf,hname,by rw[hb];rfl⟩,fun E hE w S φ vals hargs m=>?_⟩
  subst hE
  obtain⟨hlen,hargs⟩:=hargs.getA
  have hsz:vals.size=args.length:=by simpa using hlen.symm
  have m0:=m.here
  refine calls_of_wp hf hb (Pj (E:=⟨w,S,WS φ (fun r=>ob.getD r none),E.wl,E.gb,m.glob fun _ h=>h⟩) (tr:=⟨cx.np,φ,fun r=>ob.getD r none⟩) hT hC hD rfl c h ⟨S,φ,⟨?_,fun i hi=>?_,rfl,m0⟩,fun r hr h0=>⟨h0,.refl _ _ _⟩⟩ ?_)
  ·simp[hsz]
  ·simp only[List.getElem_append]
   split
   ·rename_i hlt
    have:=hargs i hlt
    have e:(vals++Array.replicate (fn.ntmps-vals.size) undef).getD i undef=vals.toList.getD i undef:=by
     have:i<vals.size:=by omega
     simp[Array.getElem?_append_left this]
    rw[e];exact this
   rw[List.getElem_replicate]
   exact⟨.dead _,GK _⟩
  intro e st a w' hl hR
  obtain⟨S1,φ1,hR,htr⟩:=hR
  have hne :∀id,e≠.exit id:=fun id he=>by subst he;exact hl
  have hl':UM cx st fn.results.toList (fun asz=>(match asz with
   | [a]=>K a st.ob
   | asz=>K (.tup asz) st.ob)):=by
   cases e with
   | exit id=>exact absurd rfl (hne id)
   | normal=>exact hl
   | ret=>exact hl
  obtain⟨asz,us,h1,h2,h3⟩:=JL hT hR hl'
  have hrun:=Pi h2
  have hrep :∃r,K r st.ob/\RepA S1 w' φ1 (obf st.ob) r (aM us)/\Closed (obf st.ob) r:=by
   have tupl :∀{asz:List AV} {us:List Value},All2 (fun x v=>RepA S1 w' φ1 (obf st.ob) x v/\Closed (obf st.ob) x) asz us->RepA S1 w' φ1 (obf st.ob) (.tup asz) (.tuple us.toArray)/\Closed (obf st.ob) (.tup asz):=by
    intro asz us h
    obtain⟨q1,q2⟩:=h.getA
    refine⟨.tup asz us.toArray (fun i=>us.getD i undef) (by simp[q1]) (fun i hi=>?_) fun i hi=>(q2 i hi).1,fun r hr=>?_⟩
    ·have:i<us.length:=by omega
     simp[this]
    obtain⟨c,hc1,hc2⟩:=AV.refs_mem' asz r (by simpa[AV.refs] using hr)
    obtain⟨j,hj,rfl⟩:=List.getElem_of_mem hc1
    exact (q2 j hj).2 r hc2
   split at h1
   ·cases h3 with | cons hv hrest=>
    cases hrest
    exact⟨_,h1,hv.1,hv.2⟩
   rename_i hn
   obtain⟨q1,q2⟩:=tupl h3
   refine⟨_,h1,?_,q2⟩
   match asz,us,h3,hn with
   | [],[],_,_=>exact q1
   | [_],[_],_,hn=>exact absurd rfl (hn _)
   | _::_::_,_::_::_,_,_=>exact q1
  obtain⟨r,g1,g2,g3⟩:=hrep
  have hK:Kept w S φ (fun r=>ob.getD r none) w' S1 φ1 (obf st.ob):=by
   refine⟨fun b o hS=>⟨hR.mem.sS b o hS,hR.mem.kS b o hS⟩,fun r hr=>?_,fun r hr=>?_⟩
   ·refine (htr r (Nat.lt_of_not_le fun hge=>hr (Ho hno r hge)) hr).2
   exact (htr r (Nat.lt_of_not_le fun hge=>hr (Ho hno r hge)) hr).1
  have:a.defers=[]/\∃v,(results fn a.tmps).run P w'=.ok v w'/\∃v',Ending.returned v=.returned v'/\∃S' φ' r ob',K r ob'/\Mem E w' S' φ' (fun r=>ob'.getD r none)/\Kept w S φ (fun r=>ob.getD r none) w' S' φ' (fun r=>ob'.getD r none)/\
    RepA S' w' φ' (fun r=>ob'.getD r none) r v'/\Closed (fun r=>ob'.getD r none) r:=
   ⟨hR.df,_,hrun,_,rfl,S1,φ1,r,st.ob,g1,m.trans hR.mem,hK,g2,g3⟩
  cases e with
  | exit id=>exact absurd rfl (hne id)
  | normal=>exact this
  | ret=>exact this
end
end Go.AX
end
section
namespace Go.AX
def Agree (rs:List Nat)(ob ob':List (Option OB)):Prop:=∀r∈rs,ob'[r]?=ob[r]?
theorem Agree.mono {rs rs':List Nat}{ob ob':List (Option OB)}(h:Agree rs ob ob')(hs :∀r∈rs',r∈rs):Agree rs' ob ob':=fun r hr=>h r (hs r hr)
theorem CB {ob:List (Option OB)}{r:Nat}{K:OB->Prop}(h:DD ob r K) :∃o,K o/\∀ob':List (Option OB),ob'[r]?=ob[r]?->∀K':OB->Prop,K' o->DD ob' r K':=by
 rw[A0] at h
 obtain⟨o,ho,h⟩:=h
 refine⟨o,h,fun ob' ha K' hK=>(A0 _ _ _).2 ⟨o,?_,hK⟩⟩
 rw[List.getD_eq_getElem?_getD] at ho ⊢
 rw[ha];exact ho
theorem KB {ob ob':List (Option OB)}{r:Nat}{P Q:Prop}(h:noO ob r P)(ha:ob'[r]?=ob[r]?)(hq:Q):noO ob' r Q:=by
 rw[CC] at h ⊢
 exact⟨ha.trans h.1,hq⟩
theorem Hr {a:AV}{K:AV->Prop}(h:a.force K) :∃v,K v/\∀K':AV->Prop,K' v->a.force K':=⟨a,(CN _ _).1 h,fun K' hK=>(CN _ _).2 hK⟩
theorem dK {T:TT}{op:BinOp}{t:Nat}{x y:AV}{K:AV->Prop}(h:Zr T op t x y K) :∃v,K v/\∀K':AV->Prop,K' v->Zr T op t x y K':=by
 simp only[Ya] at h ⊢
 unfold YR at h ⊢
 split at h
 ·obtain⟨h1,r,h2,h3⟩:=h;exact⟨_,h3,fun K' hK=>⟨h1,r,h2,hK⟩⟩
 ·obtain⟨h1,r,h2,h3⟩:=h;exact⟨_,h3,fun K' hK=>⟨h1,r,h2,hK⟩⟩
 ·exact⟨_,h,fun K' hK=>hK⟩
 ·exact⟨_,h,fun K' hK=>hK⟩
 ·exact⟨_,h.2,fun K' hK=>⟨h.1,hK⟩⟩
 ·exact⟨_,h,fun K' hK=>hK⟩
 ·exact⟨_,h,fun K' hK=>hK⟩
 ·rw[AD] at h
  obtain⟨h0,h⟩:=h
  cases op<;>simp only at h
  case add=>obtain⟨r,h2,h3⟩:=h;exact⟨_,h3,fun K' hK=>(AD _ _).2 ⟨h0,r,h2,hK⟩⟩
  case sub=>obtain⟨r,h2,h3⟩:=h;exact⟨_,h3,fun K' hK=>(AD _ _).2 ⟨h0,r,h2,hK⟩⟩
  case mul=>obtain⟨r,h2,h3⟩:=h;exact⟨_,h3,fun K' hK=>(AD _ _).2 ⟨h0,r,h2,hK⟩⟩
  case quo=>obtain⟨h1,r,h2,h3⟩:=h;exact⟨_,h3,fun K' hK=>(AD _ _).2 ⟨h0,h1,r,h2,hK⟩⟩
  case rem=>obtain⟨h1,r,h2,h3⟩:=h;exact⟨_,h3,fun K' hK=>(AD _ _).2 ⟨h0,h1,r,h2,hK⟩⟩
  case and=>obtain⟨r,h2,h3⟩:=h;exact⟨_,h3,fun K' hK=>(AD _ _).2 ⟨h0,r,h2,hK⟩⟩
  case or=>obtain⟨r,h2,h3⟩:=h;exact⟨_,h3,fun K' hK=>(AD _ _).2 ⟨h0,r,h2,hK⟩⟩
  case xor=>obtain⟨r,h2,h3⟩:=h;exact⟨_,h3,fun K' hK=>(AD _ _).2 ⟨h0,r,h2,hK⟩⟩
  case andNot=>obtain⟨r,h2,h3⟩:=h;exact⟨_,h3,fun K' hK=>(AD _ _).2 ⟨h0,r,h2,hK⟩⟩
  case eql=>exact⟨_,h,fun K' hK=>(AD _ _).2 ⟨h0,hK⟩⟩
  case neq=>exact⟨_,h,fun K' hK=>(AD _ _).2 ⟨h0,hK⟩⟩
  case lss=>exact⟨_,h,fun K' hK=>(AD _ _).2 ⟨h0,hK⟩⟩
  case leq=>exact⟨_,h,fun K' hK=>(AD _ _).2 ⟨h0,hK⟩⟩
  case gtr=>exact⟨_,h,fun K' hK=>(AD _ _).2 ⟨h0,hK⟩⟩
  case geq=>exact⟨_,h,fun K' hK=>(AD _ _).2 ⟨h0,hK⟩⟩
  all_goals exact h.elim
 ·split at h
  ·exact⟨_,h,fun K' hK=>hK⟩
  exact h.elim
 ·split at h
  ·exact⟨_,h,fun K' hK=>hK⟩
  exact h.elim
 exact h.elim
theorem fY {op:UnOp}{x:AV}{K:AV->Prop}(h:unK op x K) :∃v,K v/\∀K':AV->Prop,K' v->unK op x K':=by
 unfold unK at h ⊢
 split at h
 ·exact⟨_,h,fun K' hK=>hK⟩
 ·obtain⟨r,h2,h3⟩:=h;exact⟨_,h3,fun K' hK=>⟨r,h2,hK⟩⟩
 exact h.elim
theorem cK {c a b:AV}{K:AV->Prop}(h:WC c a b K) :∃v,K v/\∀K':AV->Prop,K' v->WC c a b K':=by
 unfold WC at h ⊢
 split at h
 ·split at h
  ·exact⟨_,h,fun K' hK=>hK⟩
  rename_i t _ _ hne
  cases t with
  | true=>obtain⟨v,h1,h2⟩:=Hr h;exact⟨v,h1,fun K' hK=>h2 K' hK⟩
  | false=>obtain⟨v,h1,h2⟩:=Hr h;exact⟨v,h1,fun K' hK=>h2 K' hK⟩
 exact h.elim
theorem MY {T:TT}{t n i k:Nat}{es:List D}{K:AV->Prop}(h:Iw T t n i k es K) :∃v,K v/\∀K':AV->Prop,K' v->Iw T t n i k es K':=by
 unfold Iw at h ⊢
 simp only[Ds] at h
 obtain⟨hn,x,hx,h⟩:=h
 cases hcl:(T.get t).kind.cls with
 | none=>simp[hcl] at h
 | some q=>
  cases q with
  | true=>
   simp only[hcl,AD,DG] at h
   exact⟨_,h.2,fun K' hK=>⟨hn,x,hx,by simp only[Ds,AD,DG];exact⟨h.1,hK⟩⟩⟩
  | false=>
   simp only[hcl] at h
   cases hg:(x.cells.drop k)[0]? with
   | none=>simp[hg] at h
   | some y=>
    simp only[hg] at h
    exact⟨_,h,fun K' hK=>⟨hn,x,hx,by simp only[Ds,hg];exact hK⟩⟩
theorem cT {T:TT}{t:Nat}{a:AV}{ob:List (Option OB)}{K:AV->Prop}(h:QT T t a ob K) :
  ∃v,K v/\∀ob',Agree a.refs ob ob'->∀K':AV->Prop,K' v->QT T t a ob' K':=by
 cases a<;>simp only[QT] at h ⊢
 case ref r off=>
  obtain⟨o,h,ho⟩:=CB h
  cases o with
  | row=>exact h.elim
  | map=>exact h.elim
  | amap=>exact h.elim
  | gone=>exact h.elim
  | box cs=>
   simp only at h
   cases hcl:(T.get t).kind.cls with
   | none=>simp[hcl] at h
   | some q=>
    cases q with
    | true=>
     simp only[hcl,Ds,AD,DG,EJ] at h
     exact⟨_,h.2,fun ob' ha K' hK=>ho ob' (ha r (by simp[AV.refs])) _ (by simp only[Ds,AD,DG,EJ];exact⟨h.1,hK⟩)⟩
    | false=>
     simp only[hcl] at h
     cases hg:cs[off]? with
     | none=>simp[hg] at h
     | some x=>
      simp only[hg] at h
      obtain⟨v,h1,h2⟩:=Hr h
      exact⟨v,h1,fun ob' ha K' hK=>ho ob' (ha r (by simp[AV.refs])) _ (by simp only[hg];exact h2 K' hK)⟩
 case eref cs=>
  cases hcl:(T.get t).kind.cls with
  | none=>simp[hcl] at h
  | some q=>
   cases q with
   | true=>
    simp only[hcl,AD,DG] at h
    exact⟨_,h.2,fun ob' _ K' hK=>by simp only[AD,DG];exact⟨h.1,hK⟩⟩
   | false=>
    simp only[hcl] at h
    cases hg:cs[0]? with
    | none=>simp[hg] at h
    | some x=>
     simp only[hg] at h
     exact⟨_,h,fun ob' _ K' hK=>hK⟩
 case rref r n i k=>
  obtain⟨o,h,ho⟩:=CB h
  cases o with
  | box cs=>
   simp only at h
   cases hcl:(T.get t).kind.cls with
   | none=>simp[hcl] at h
   | some q=>
    cases q with
    | true=>simp[hcl] at h
    | false=>
     simp only[hcl,CN] at h
     obtain⟨x,hg,h⟩:=h
     exact⟨_,h,fun ob' ha K' hK=>ho ob' (ha r (by simp[AV.refs])) _ ⟨x,hg,(CN _ _).2 hK⟩⟩
  | map=>exact h.elim
  | amap=>exact h.elim
  | gone=>exact h.elim
  | row e sz es frz=>
   cases frz with
   | no=>
    obtain⟨v,h1,h2⟩:=MY h
    exact⟨v,h1,fun ob' ha K' hK=>ho ob' (ha r (by simp[AV.refs])) _ (h2 K' hK)⟩
   | yes=>
    obtain⟨v,h1,h2⟩:=MY h
    exact⟨v,h1,fun ob' ha K' hK=>ho ob' (ha r (by simp[AV.refs])) _ (h2 K' hK)⟩
   | lk i' j' q m=>
    rcases h with h | ⟨g1,g2,g3,g4,g5,g6,h⟩
    ·obtain⟨v,h1,h2⟩:=MY h
     exact⟨v,h1,fun ob' ha K' hK=>ho ob' (ha r (by simp[AV.refs])) _ (.inl (h2 K' hK))⟩
    exact⟨_,h,fun ob' ha K' hK=>ho ob' (ha r (by simp[AV.refs])) _ (.inr ⟨g1,g2,g3,g4,g5,g6,hK⟩)⟩
theorem NY {ob:List (Option OB)}{a:AV}{K:D->W->Prop}(h:toD ob a K) :
  ∃x w,K x w/\(∀q∈w,q.1∈a.refs)/\∀ob',Agree a.refs ob ob'->∀K':D->W->Prop,K' x w->toD ob' a K':=by
 cases a<;>simp only[toD] at h ⊢
 case d x=>exact⟨_,_,(EH _ _).1 h,fun q hq=>by simp at hq,fun ob' _ K' hK=>(EH _ _).2 hK⟩
 case own r n=>
  obtain⟨o,h,ho⟩:=CB h
  cases o with
  | box=>exact h.elim
  | map=>exact h.elim
  | amap=>exact h.elim
  | gone=>exact h.elim
  | row e sz es f=>exact⟨_,_,h.2,fun q hq=>by simp only[X14] at hq;simp[hq,AV.refs],fun ob' ha K' hK=>ho ob' (ha r (by simp[AV.refs])) _ ⟨h.1,hK⟩⟩
 case agg cs=>
  have key :∀(cs:List AV) (K:List D->W->Prop),toD.toDs ob cs K->∃l w,K l w/\(∀q∈w,q.1∈AV.refs.refsL cs)/\∀ob',Agree (AV.refs.refsL cs) ob ob'->∀K':List D->W->Prop,K' l w->toD.toDs ob' cs K':=by
   intro cs
   induction cs with
   | nil=>intro K h;exact⟨_,_,h,fun q hq=>by simp at hq,fun ob' _ K' hK=>hK⟩
   | cons c cs ih=>
    intro K h
    cases c<;>simp only[toD.toDs] at h ⊢
    case d x=>
     cases x with
     | agg=>exact h.elim
     | val u=>obtain⟨l,w,h1,hq,h2⟩:=ih _ h;exact⟨_,w,h1,fun q hm=>by simp[AV.refs.refsL,hq q hm],fun ob' ha K' hK=>h2 ob' (ha.mono fun r hr=>by simp[AV.refs.refsL,hr]) _ hK⟩
     | nil sz=>obtain⟨l,w,h1,hq,h2⟩:=ih _ h;exact⟨_,w,h1,fun q hm=>by simp[AV.refs.refsL,hq q hm],fun ob' ha K' hK=>h2 ob' (ha.mono fun r hr=>by simp[AV.refs.refsL,hr]) _ hK⟩
     | lst sz es=>obtain⟨l,w,h1,hq,h2⟩:=ih _ h;exact⟨_,w,h1,fun q hm=>by simp[AV.refs.refsL,hq q hm],fun ob' ha K' hK=>h2 ob' (ha.mono fun r hr=>by simp[AV.refs.refsL,hr]) _ hK⟩
    case fn g caps=>
     cases caps with
     | cons=>exact h.elim
     | nil=>obtain⟨l,w,h1,hq,h2⟩:=ih _ h;exact⟨_,w,h1,fun q hm=>by simp[AV.refs.refsL,hq q hm],fun ob' ha K' hK=>h2 ob' (ha.mono fun r hr=>by simp[AV.refs.refsL,hr]) _ hK⟩
    case own r n=>
     obtain⟨o,h,ho⟩:=CB h
     cases o with
     | box=>exact h.elim
     | map=>exact h.elim
     | amap=>exact h.elim
     | gone=>exact h.elim
     | row e sz es f=>
      obtain⟨hn,h⟩:=h
      obtain⟨l,w,h1,hq,h2⟩:=ih _ h
      refine⟨_,_,h1,fun q hm=>?_,fun ob' ha K' hK=>ho ob' (ha r (by simp[AV.refs.refsL,AV.refs])) _ ⟨hn,h2 ob' (ha.mono fun r hr=>by simp[AV.refs.refsL,hr]) _ hK⟩⟩
      simp only[List.mem_cons] at hm
      rcases hm with hm | hm
      ·simp[hm,AV.refs.refsL,AV.refs]
      simp[AV.refs.refsL,hq q hm]
  obtain⟨l,w,h1,hq,h2⟩:=key cs _ h
  exact⟨_,w,h1,hq,fun ob' ha K' hK=>h2 ob' ha _ hK⟩
theorem KP {y x:D}{k:Nat}{K:D->Prop}(h:FS y k x K) :∃z,K z/\∀K':D->Prop,K' z->FS y k x K':=by
 unfold FS at h ⊢
 simp only[EH,FU] at h ⊢
 obtain⟨h0,h⟩:=h
 split at h
 ·exact⟨_,h,fun K' hK=>⟨h0,hK⟩⟩
 split at h
 ·rw[AD] at h
  exact⟨_,h.2,fun K' hK=>⟨h0,(AD _ _).2 ⟨h.1,hK⟩⟩⟩
 exact h.elim
theorem an {T:TT}{t:Nat}{a x:AV}{ob:List (Option OB)}{K:AV->W->Prop}(h:MI T t a x ob K) :
  ∃v w,K v w/\(∀q∈w,q.1∈a.refs)/\∀ob',Agree a.refs ob ob'->∀K':AV->W->Prop,K' v w->MI T t a x ob' K':=by
 unfold MI at h ⊢
 rw[AD] at h
 obtain⟨h0,h⟩:=h
 split at h
 ·rename_i r off
  obtain⟨o,h,ho⟩:=CB h
  cases o with
  | row=>exact h.elim
  | map=>exact h.elim
  | amap=>exact h.elim
  | gone=>exact h.elim
  | box cs=>
   simp only[Es,AD,FU] at h
   obtain⟨l,hl,hsz,hle,h⟩:=h
   exact⟨_,_,h,fun q hq=>by simp only[X14] at hq;simp[hq,AV.refs],fun ob' ha K' hK=>(AD _ _).2 ⟨h0,ho ob' (ha r (by simp[AV.refs])) _ (by simp only[Es,AD,FU];exact⟨l,hl,hsz,hle,hK⟩)⟩⟩
 ·rename_i r n i k
  obtain⟨o,h,ho⟩:=CB h
  cases o with
  | box=>exact h.elim
  | map=>exact h.elim
  | amap=>exact h.elim
  | gone=>exact h.elim
  | row e sz es f=>
   simp only at h
   obtain⟨hn,hf,h⟩:=h
   cases x<;>simp only at h
   case d x=>
    rw[AD] at h
    obtain⟨hsz,y,hy,h⟩:=h
    obtain⟨z,⟨zs,hzs,h⟩,hz⟩:=KP h
    exact⟨_,_,h,fun q hq=>by simp only[X14] at hq;simp[hq,AV.refs],fun ob' ha K' hK=>(AD _ _).2 ⟨h0,ho ob' (ha r (by simp[AV.refs])) _ ⟨hn,hf,(AD _ _).2 ⟨hsz,y,hy,hz _ ⟨zs,hzs,hK⟩⟩⟩⟩⟩
 exact h.elim
theorem Ur {T:TT}{t r n i k q m:Nat}{ob:List (Option OB)}{K:AV->W->Prop}(h:E6 T t r n i k q m ob K) :
  ∃v w,K v w/\(∀p∈w,p.1 ∈ [r,q])/\∀ob',Agree [r,q] ob ob'->∀K':AV->W->Prop,K' v w->E6 T t r n i k q m ob' K':=by
 unfold E6 at h ⊢
 rw[AD] at h
 obtain⟨h0,h⟩:=h
 obtain⟨d,w,h,hq,hd⟩:=NY h
 rw[AD] at h
 obtain⟨h1,h⟩:=h
 obtain⟨o,h,ho⟩:=CB h
 cases o with
 | box=>exact h.elim
 | map=>exact h.elim
 | amap=>exact h.elim
 | gone=>exact h.elim
 | row e sz es f=>
  simp only[AD] at h
  obtain⟨hn,hf,hsz,y,hy,h⟩:=h
  obtain⟨z,⟨zs,hzs,h⟩,hz⟩:=KP h
  refine⟨_,_,h,fun p hp=>?_,fun ob' ha K' hK=>(AD _ _).2 ⟨h0,hd ob' (ha.mono fun x hx=>by simp only[AV.refs,X14] at hx;simp[hx]) _ ((AD _ _).2 ⟨h1,ho ob' (ha r (by simp)) _ ⟨hn,hf,(AD _ _).2 ⟨hsz,y,hy,hz _ ⟨zs,hzs,hK⟩⟩⟩⟩)⟩⟩
  rcases X23.1 hp with hp | hp
  ·have:=hq p hp
   simp only[AV.refs,X14] at this
   simp[this]
  simp only[X14] at hp
  simp[hp]
theorem Vj {T:TT}{t r n i k:Nat}{x:AV}{ob:List (Option OB)}{K:AV->W->Prop}(h:FT T t r n i k x ob K) :
  ∃v w,K v w/\(∀p∈w,p.1∈r::x.refs)/\∀ob',Agree (r::x.refs) ob ob'->∀K':AV->W->Prop,K' v w->FT T t r n i k x ob' K':=by
 unfold FT at h ⊢
 rw[AD] at h
 obtain⟨h0,h⟩:=h
 obtain⟨d,w,h,hq,hd⟩:=NY h
 rw[AD] at h
 obtain⟨h1,h⟩:=h
 obtain⟨o,h,ho⟩:=CB h
 cases o with
 | box=>exact h.elim
 | map=>exact h.elim
 | amap=>exact h.elim
 | gone=>exact h.elim
 | row e sz es f=>
  simp only[AD] at h
  obtain⟨hn,hf,hsz,y,hy,h⟩:=h
  obtain⟨z,⟨zs,hzs,h⟩,hz⟩:=KP h
  refine⟨_,_,h,fun p hp=>?_,fun ob' ha K' hK=>(AD _ _).2 ⟨h0,hd ob' (ha.mono fun x hx=>by simp[hx]) _ ((AD _ _).2 ⟨h1,ho ob' (ha r (by simp)) _ ⟨hn,hf,(AD _ _).2 ⟨hsz,y,hy,hz _ ⟨zs,hzs,hK⟩⟩⟩⟩)⟩⟩
  rcases X23.1 hp with hp | hp
  ·exact X19 _ (hq p hp)
  simp only[X14] at hp
  simp[hp]
theorem aG {T:TT}{t:Nat}{a x:AV}{ob:List (Option OB)}{K:AV->W->Prop}(h:JJ T t a x ob K) :
  ∃v w,K v w/\(∀q∈w,q.1∈a.refs++x.refs)/\∀ob',Agree (a.refs++x.refs) ob ob'->∀K':AV->W->Prop,K' v w->JJ T t a x ob' K':=by
 rcases Ns h with ⟨r,n,i,k,q,m,rfl,rfl,h⟩|⟨r,n,i,k,cs,rfl,rfl,h⟩|⟨h,hb⟩
 ·obtain⟨v,w,h1,h2,h3⟩:=Ur h
  exact⟨v,w,h1,fun p hp=>by simpa[AV.refs] using h2 p hp,fun ob' ha K' hK=>by
   unfold JJ
   exact h3 ob' (ha.mono fun r hr=>by simpa[AV.refs] using hr) K' hK⟩
 ·obtain⟨v,w,h1,h2,h3⟩:=Vj h
  exact⟨v,w,h1,fun p hp=>by simpa[AV.refs] using h2 p hp,fun ob' ha K' hK=>by
   unfold JJ
   exact h3 ob' (ha.mono fun r hr=>by simpa[AV.refs] using hr) K' hK⟩
 obtain⟨v,w,h1,h2,h3⟩:=an h
 exact⟨v,w,h1,fun p hp=>X23.2 (.inl (h2 p hp)),fun ob' ha K' hK=>hb ob' K' (h3 ob' (ha.mono fun r hr=>X23.2 (.inl hr)) K' hK)⟩
theorem dx (place:Nat->Option (Nat×Nat)) :∀(ps:List (Nat×AV)) (cs:List AV) {K:List AV->Prop},H3.go place ps cs K->∃l,K l/\∀K':List AV->Prop,K' l->H3.go place ps cs K'
 | [],cs,K,h=>⟨_,h,fun K' hK=>hK⟩
 | (i,v)::ps,cs,K,h=>by
  simp only[H3.go] at h ⊢
  cases hp:place i with
  | none=>simp[hp] at h
  | some q=>
   obtain⟨off,size⟩:=q
   simp only[hp,Es,AD,FU] at h ⊢
   obtain⟨l,hl,hsz,hle,h⟩:=h
   obtain⟨l',h1,h2⟩:=dx place ps _ h
   exact⟨l',h1,fun K' hK=>⟨l,hl,hsz,hle,h2 K' hK⟩⟩
theorem aY {T:TT}{t:Nat}{ps:List (Nat×AV)}{K:AV->Prop}(h:H3 T t ps K) :∃v,K v/\∀K':AV->Prop,K' v->H3 T t ps K':=by
 unfold H3 at h ⊢
 split at h
 ·obtain⟨l,h1,h2⟩:=dx _ _ _ h
  rw[EJ] at h1
  exact⟨_,h1,fun K' hK=>h2 _ ((EJ _ _).2 hK)⟩
 ·rw[AD] at h
  obtain⟨h0,h⟩:=h
  obtain⟨l,h1,h2⟩:=dx _ _ _ h
  rw[EJ] at h1
  exact⟨_,h1,fun K' hK=>(AD _ _).2 ⟨h0,h2 _ ((EJ _ _).2 hK)⟩⟩
 exact h.elim
theorem YM {ob:List (Option OB)}{sz:Nat} :∀{ps:List (Nat×AV)} {i:Nat} {K:List D->W->Prop},Dq.elems ob sz i ps K->
  ∃l w,K l w/\(∀q∈w,q.1∈AV.refs.refsL (ps.map (·.2)))/\∀ob',Agree (AV.refs.refsL (ps.map (·.2))) ob ob'->∀K':List D->W->Prop,K' l w->Dq.elems ob' sz i ps K'
 | [],i,K,h=>⟨_,_,h,fun q hq=>by simp at hq,fun ob' _ K' hK=>hK⟩
 | (j,v)::ps,i,K,h=>by
  simp only[Dq.elems] at h ⊢
  cases hb:Nat.beq i j with
  | false=>simp[hb] at h
  | true=>
   simp only[hb] at h ⊢
   obtain⟨x,w,h,hq1,hx⟩:=NY h
   rw[AD] at h
   obtain⟨hsz,h⟩:=h
   obtain⟨l,w',h1,hq2,h2⟩:=YM h
   exact⟨_,_,h1,fun q hm=>by
    simp only[List.map_cons,AV.refs.refsL,X23]
    rcases X23.1 hm with hm | hm
    ·exact .inl (hq1 q hm)
    exact .inr (hq2 q hm),fun ob' ha K' hK=>hx ob' (ha.mono fun r hr=>by simp[AV.refs.refsL,hr]) _ ((AD _ _).2 ⟨hsz,h2 ob' (ha.mono fun r hr=>by simp only[List.map_cons,AV.refs.refsL,X23];exact .inr hr) _ hK⟩)⟩
theorem Ph {T:TT}{t len self:Nat}{ps:List (Nat×AV)}{ob:List (Option OB)}{K:AV->W->Prop}(h:Dq T t len self ps ob K) :
  ∃v w,K v w/\(∀q∈w,q.1∈self::AV.refs.refsL (ps.map (·.2)))/\∀ob',Agree (self::AV.refs.refsL (ps.map (·.2))) ob ob'->∀K':AV->W->Prop,K' v w->Dq T t len self ps ob' K':=by
 unfold Dq at h ⊢
 split at h
 ·have h0:=h
  rw[CC,AD,AD] at h
  obtain⟨hs,hc,hk,h⟩:=h
  obtain⟨l,w,h1,hq,h2⟩:=YM h
  rw[AD] at h1
  exact⟨_,_,h1.2,fun q hm=>by
   rcases X23.1 hm with hm | hm
   ·exact X19 _ (hq q hm)
   simp only[X14] at hm;simp[hm],fun ob' ha K' hK=>KB h0 (ha self (by simp)) ((AD _ _).2 ⟨hc,(AD _ _).2 ⟨hk,h2 ob' (ha.mono fun r hr=>by simp[hr]) _ ((AD _ _).2 ⟨h1.1,hK⟩)⟩⟩)⟩
 exact h.elim
theorem VF {T:TT}{t len self:Nat}{cs:List AV}{ob:List (Option OB)}{K:AV->W->Prop}(h:Hv T t len self cs ob K) :
  ∃v w,K v w/\(∀q∈w,q.1 ∈ [self])/\∀ob',Agree [self] ob ob'->∀K':AV->W->Prop,K' v w->Hv T t len self cs ob' K':=by
 unfold Hv at h ⊢
 split at h
 ·have h0:=h
  rw[CC,AD] at h
  obtain⟨hs,hc,hK⟩:=h
  exact⟨_,_,hK,fun q hm=>by simp only[X14] at hm;simp[hm],fun ob' ha K' hK'=>KB h0 (ha self (by simp)) ((AD _ _).2 ⟨hc,hK'⟩)⟩
 exact h.elim
theorem Uz {T:TT}{t len self:Nat}{cs:List AV}{ob:List (Option OB)}{K:AV->W->Prop}(h:Gq T t len self cs ob K) :
  ∃v w,K v w/\(∀q∈w,q.1∈self::(AV.agg cs).refs)/\∀ob',Agree (self::(AV.agg cs).refs) ob ob'->∀K':AV->W->Prop,K' v w->Gq T t len self cs ob' K':=by
 unfold Gq at h ⊢
 split at h
 ·have h0:=h
  rw[CC,AD] at h
  obtain⟨hs,hc,j,q,m,hj,h⟩:=h
  obtain⟨d,w,h,hq,hd⟩:=NY h
  rw[AD] at h
  obtain⟨hw,h⟩:=h
  refine⟨_,_,h,fun p hp=>?_,fun ob' ha K' hK=>KB h0 (ha self (by simp)) ((AD _ _).2 ⟨hc,j,q,m,hj,hd ob' (ha.mono fun r hr=>by simp[hr]) _ ((AD _ _).2 ⟨hw,hK⟩)⟩)⟩
  rcases X23.1 hp with hp | hp
  ·exact X19 _ (hq p hp)
  simp only[X14] at hp;simp[hp]
 exact h.elim
theorem SK {T:TT}{t len self:Nat}{ps:List (Nat×AV)}{ob:List (Option OB)}{K:AV->W->Prop}(h:GL T t len self ps ob K) :
  ∃v w,K v w/\(∀q∈w,q.1∈self::AV.refs.refsL (ps.map (·.2)))/\∀ob',Agree (self::AV.refs.refsL (ps.map (·.2))) ob ob'->∀K':AV->W->Prop,K' v w->GL T t len self ps ob' K':=by
 unfold GL at h ⊢
 split at h
 ·rcases h with h | h
  ·obtain⟨v,w,h1,h2,h3⟩:=Ph h
   exact⟨v,w,h1,h2,fun ob' ha K' hK=>.inl (h3 ob' ha K' hK)⟩
  rcases h with h | h
  ·obtain⟨v,w,h1,h2,h3⟩:=VF h
   exact⟨v,w,h1,fun q hq=>by have:=h2 q hq;simp only[X14] at this;simp[this],fun ob' ha K' hK=>.inr (.inl (h3 ob' (ha.mono fun r hr=>by simp only[X14] at hr;simp[hr]) K' hK))⟩
  obtain⟨v,w,h1,h2,h3⟩:=Uz h
  exact⟨v,w,h1,fun q hq=>by simpa[AV.refs.refsL] using h2 q hq,fun ob' ha K' hK=>.inr (.inr (h3 ob' (ha.mono fun r hr=>by simpa[AV.refs.refsL] using hr) K' hK))⟩
 exact Ph h
theorem cq {ob:List (Option OB)}{y:AV}{K:Nat->List D->Prop}(h:Su ob y K) :∃sz es,K sz es/\∀ob',Agree y.refs ob ob'->∀K':Nat->List D->Prop,K' sz es->Su ob' y K':=by
 unfold Su at h ⊢
 split at h
 ·exact⟨_,_,h,fun ob' _ K' hK=>hK⟩
 ·exact⟨_,_,h,fun ob' _ K' hK=>hK⟩
 ·rename_i r n
  obtain⟨o,h,ho⟩:=CB h
  cases o with
  | box=>exact h.elim
  | map=>exact h.elim
  | amap=>exact h.elim
  | gone=>exact h.elim
  | row e sz es f=>exact⟨_,_,h.2,fun ob' ha K' hK=>ho ob' (ha r (by simp[AV.refs])) _ ⟨h.1,hK⟩⟩
 exact h.elim
theorem Xk {ob:List (Option OB)}{y:AV}{K:Nat->List D->Prop}(h:Ul ob y K) :∃sz es,K sz es/\∀ob',Agree y.refs ob ob'->∀K':Nat->List D->Prop,K' sz es->Ul ob' y K':=by
 unfold Ul at h ⊢
 split at h
 ·rename_i r a n m
  obtain⟨o,h,ho⟩:=CB h
  cases o with
  | box=>exact h.elim
  | map=>exact h.elim
  | amap=>exact h.elim
  | gone=>exact h.elim
  | row e sz es f=>
   obtain⟨h1,zs,h2,h⟩:=h
   exact⟨_,_,h,fun ob' ha K' hK=>ho ob' (ha r (by simp[AV.refs])) _ ⟨h1,zs,h2,hK⟩⟩
 exact cq h
theorem dT {ob:List (Option OB)}{y:AV}{k sz:Nat}{frz:FZ}{K:FZ->Prop}(h:Yk ob y k sz frz K) :
  ∃f,K f/\∀ob',Agree y.refs ob ob'->∀K':FZ->Prop,K' f->Yk ob' y k sz frz K':=by
 unfold Yk at h ⊢
 split at h
 ·exact⟨_,h,fun ob' _ K' hK=>hK⟩
 split at h
 ·rename_i q n
  have e :∀ob',Agree (AV.own q n).refs ob ob'->ob'.getD q none=ob.getD q none:=fun ob' ha=>by
   rw[List.getD_eq_getElem?_getD,List.getD_eq_getElem?_getD,ha q (by simp[AV.refs])]
  split at h
  ·rename_i e0 sz' ys i j q' m hq
   split at h
   ·rename_i hb
    exact⟨_,h.2,fun ob' ha K' hK=>by simp only[e ob' ha,hq,hb];exact⟨h.1,hK⟩⟩
   rename_i hb
   exact⟨_,h,fun ob' ha K' hK=>by simp only[e ob' ha,hq,hb];exact hK⟩
  rename_i hn
  refine⟨_,h,fun ob' ha K' hK=>?_⟩
  rw[e ob' ha]
  split
  ·rename_i hq
   exact absurd hq (hn _ _ _ _ _ _ _)
  exact hK
 exact⟨_,h,fun ob' _ K' hK=>hK⟩
theorem SZ {T:TT}{st self:Nat}{x y:AV}{ob:List (Option OB)}{K:AV->W->Prop}(h:LK T st self x y ob K) :
  ∃v w,K v w/\(∀q∈w,q.1∈self::x.refs)/\∀ob',Agree (self::(x.refs++y.refs)) ob ob'->∀K':AV->W->Prop,K' v w->LK T st self x y ob' K':=by
 unfold LK at h ⊢
 split at h
 ·obtain⟨sz',ys,h,hy⟩:=Xk h
  split at h
  ·have h0:=h
   rw[CC,AD,AD] at h
   obtain⟨hs,hc,hk,hb,h⟩:=h
   exact⟨_,_,h,fun q hq=>by simp only[X14] at hq;simp[hq],fun ob' ha K' hK=>hy ob' (ha.mono fun r hr=>by simp[hr]) _ (KB h0 (ha self (by simp)) ((AD _ _).2 ⟨hc,(AD _ _).2 ⟨hk,hb,hK⟩⟩))⟩
  ·rename_i r n _
   obtain⟨o,h,ho⟩:=CB h
   cases o with
   | box=>exact h.elim
   | map=>exact h.elim
   | amap=>exact h.elim
   | gone=>exact h.elim
   | row e' sz es f=>
    simp only[AD] at h
    obtain⟨hc,hk,hn,hb,zs,hz,h⟩:=h
    obtain⟨f',h,hf⟩:=dT h
    exact⟨_,_,h,fun q hq=>by simp only[X14] at hq;simp[hq,AV.refs],fun ob' ha K' hK=>hy ob' (ha.mono fun r hr=>by simp[hr]) _ (ho ob' (ha r (by simp[AV.refs])) _ ((AD _ _).2 ⟨hc,(AD _ _).2 ⟨hk,hn,hb,zs,hz,hf ob' (ha.mono fun r hr=>by simp[hr]) _ hK⟩⟩))⟩
  ·rename_i r a n mm _
   obtain⟨o,h,ho⟩:=CB h
   cases o with
   | box=>exact h.elim
   | map=>exact h.elim
   | amap=>exact h.elim
   | gone=>exact h.elim
   | row e' sz es f=>
    simp only[AD] at h
    obtain⟨hc,hk,h⟩:=h
    have h0:=h
    rw[CC] at h
    obtain⟨hs,h1,h2,h3,h4,zs,hz,h⟩:=h
    exact⟨_,_,h,fun q hq=>by
     simp only[List.mem_cons,List.not_mem_nil,or_false] at hq
     rcases hq with hq | hq<;>simp[hq,AV.refs],fun ob' ha K' hK=>hy ob' (ha.mono fun r hr=>by simp[hr]) _ (ho ob' (ha r (by simp[AV.refs])) _ ((AD _ _).2 ⟨hc,(AD _ _).2 ⟨hk,KB h0 (ha self (by simp)) ⟨h1,h2,h3,h4,zs,hz,hK⟩⟩⟩))⟩
  exact h.elim
 exact h.elim
theorem dp {T:TT}{t:Nat}{x:AV}{K:AV->Prop}(h:Yy T t x K) :∃v,K v/\∀K':AV->Prop,K' v->Yy T t x K':=by
 unfold Yy at h ⊢
 split at h<;>first | exact⟨_,h,fun K' hK=>hK⟩|exact h.elim
theorem da {T:TT}{t:Nat}{x:AV}{K:AV->Prop}(h:Xg T t x K) :∃v,K v/\∀K':AV->Prop,K' v->Xg T t x K':=by
 unfold Xg at h ⊢
 split at h<;>first | exact⟨_,h,fun K' hK=>hK⟩|exact h.elim | (obtain⟨n,hn,h⟩:=h;exact⟨_,h,fun K' hK=>⟨n,hn,hK⟩⟩)
theorem bo {T:TT}{t:Nat}{x key:AV}{ok:Bool}{ob:List (Option OB)}{K:AV->Prop}(h:Sv T t x key ok ob K) :
  ∃v,K v/\∀ob',Agree x.refs ob ob'->∀K':AV->Prop,K' v->Sv T t x key ok ob' K':=by
 unfold Sv at h ⊢
 split at h
 ·rename_i k e r kv hk
  rw[AD] at h
  obtain⟨h0,h⟩:=h
  obtain⟨o,h,ho⟩:=CB h
  cases o with
  | box=>exact h.elim
  | row=>exact h.elim
  | gone=>exact h.elim
  | amap k' e' es kv' r' n'=>
   rcases h with ⟨q,hq,v,hv,b,hb,h⟩|⟨h1,h2,h3,h4,h⟩
   ·exact⟨_,h,fun ob' ha K' hK=>(AD _ _).2 ⟨h0,ho ob' (ha r (by simp[AV.refs])) _ (.inl ⟨q,hq,v,hv,b,hb,hK⟩)⟩⟩
   exact⟨_,h,fun ob' ha K' hK=>(AD _ _).2 ⟨h0,ho ob' (ha r (by simp[AV.refs])) _ (.inr ⟨h1,h2,h3,h4,hK⟩)⟩⟩
  | map k' e' es=>
   simp only at h
   obtain⟨q,hq,v,hv,b,hb,h⟩:=h
   exact⟨_,h,fun ob' ha K' hK=>(AD _ _).2 ⟨h0,ho ob' (ha r (by simp[AV.refs])) _ ⟨q,hq,v,hv,b,hb,hK⟩⟩⟩
 exact h.elim
theorem bi {T:TT}{G:Nat->Option (List (D×D))}{t:Nat}{a:AV}{ob:List (Option OB)}{K:AV->Prop}(h:TB T G t a ob K) :
  ∃v,K v/\∀ob',Agree a.refs ob ob'->∀K':AV->Prop,K' v->TB T G t a ob' K':=by
 unfold TB at h ⊢
 split at h
 ·split at h
  ·exact⟨_,h,fun ob' _ K' hK=>hK⟩
  exact h.elim
 exact cT h
theorem bm {T:TT}{G:Nat->Option (List (D×D))}{t:Nat}{x key:AV}{ok:Bool}{ob:List (Option OB)}{K:AV->Prop}(h:Tf T G t x key ok ob K) :
  ∃v,K v/\∀ob',Agree x.refs ob ob'->∀K':AV->Prop,K' v->Tf T G t x key ok ob' K':=by
 unfold Tf at h ⊢
 split at h
 ·unfold Zl at h ⊢
  split at h
  ·rw[AD] at h
   obtain⟨h0,q,hq,v,hv,b,hb,h⟩:=h
   exact⟨_,h,fun ob' _ K' hK=>(AD _ _).2 ⟨h0,q,hq,v,hv,b,hb,hK⟩⟩
  exact h.elim
 exact bo h
theorem T8 {T:TT}{t:Nat}{x key v:AV}{ob:List (Option OB)}{K:AV->W->Prop}(h:JU T t x key v ob K) :
  ∃u w,K u w/\(∀q∈w,q.1∈x.refs++v.refs)/\∀ob',Agree (x.refs++v.refs) ob ob'->∀K':AV->W->Prop,K' u w->JU T t x key v ob' K':=by
 unfold JU at h ⊢
 split at h
 ·rename_i k e r kv hk
  rw[AD] at h
  obtain⟨h0,h⟩:=h
  obtain⟨d,w,h,hq,hd⟩:=NY h
  rw[AD] at h
  obtain⟨h1,h⟩:=h
  obtain⟨o,h,ho⟩:=CB h
  cases o with
  | box=>exact h.elim
  | row=>exact h.elim
  | gone=>exact h.elim
  | map k' e' es=>
   simp only at h
   obtain⟨zs,hz,h⟩:=h
   refine⟨_,_,h,fun q hm=>?_,fun ob' ha K' hK=>(AD _ _).2 ⟨h0,hd ob' (ha.mono fun r hr=>by simp[hr]) _ ((AD _ _).2 ⟨h1,ho ob' (ha r (by simp[AV.refs])) _ ⟨zs,hz,hK⟩⟩)⟩⟩
   rcases X23.1 hm with hm | hm
   ·exact List.mem_append_right _ (hq q hm)
   simp only[X14] at hm
   rw[hm]
   simp[AV.refs]
  | amap k' e' es _ _ _=>
   simp only at h
   obtain⟨zs,hz,h⟩:=h
   refine⟨_,_,h,fun q hm=>?_,fun ob' ha K' hK=>(AD _ _).2 ⟨h0,hd ob' (ha.mono fun r hr=>by simp[hr]) _ ((AD _ _).2 ⟨h1,ho ob' (ha r (by simp[AV.refs])) _ ⟨zs,hz,hK⟩⟩)⟩⟩
   rcases X23.1 hm with hm | hm
   ·exact List.mem_append_right _ (hq q hm)
   simp only[X14] at hm
   rw[hm]
   simp[AV.refs]
 exact h.elim
theorem Yt {T:TT}{t r0 n0:Nat}{x key:AV}{ob:List (Option OB)}{K:AV->W->Prop}(h:LS T t x key r0 n0 ob K) :
  ∃u w,K u w/\(∀q∈w,q.1∈x.refs++(AV.own r0 n0).refs)/\∀ob',Agree (x.refs++(AV.own r0 n0).refs) ob ob'->∀K':AV->W->Prop,K' u w->LS T t x key r0 n0 ob' K':=by
 unfold LS at h ⊢
 split at h
 ·rename_i k e r kv hk
  rw[AD] at h
  obtain⟨h0,h⟩:=h
  obtain⟨d,w,h,hq,hd⟩:=NY h
  rw[AD] at h
  obtain⟨h1,h⟩:=h
  obtain⟨o,h,ho⟩:=CB h
  cases o with
  | box=>exact h.elim
  | row=>exact h.elim
  | gone=>exact h.elim
  | map k' e' es=>
   simp only at h
   obtain⟨zs,hz,h⟩:=h
   refine⟨_,_,h,fun q hm=>?_,fun ob' ha K' hK=>(AD _ _).2 ⟨h0,hd ob' (ha.mono fun r hr=>by simp[hr]) _ ((AD _ _).2 ⟨h1,ho ob' (ha r (by simp[AV.refs])) _ ⟨zs,hz,hK⟩⟩)⟩⟩
   rcases X23.1 hm with hm | hm
   ·exact List.mem_append_right _ (hq q hm)
   simp only[X14] at hm
   rw[hm]
   simp[AV.refs]
  | amap k' e' es _ _ _=>
   simp only at h
   obtain⟨zs,hz,h⟩:=h
   refine⟨_,_,h,fun q hm=>?_,fun ob' ha K' hK=>(AD _ _).2 ⟨h0,hd ob' (ha.mono fun r hr=>by simp[hr]) _ ((AD _ _).2 ⟨h1,ho ob' (ha r (by simp[AV.refs])) _ ⟨zs,hz,hK⟩⟩)⟩⟩
   rcases X23.1 hm with hm | hm
   ·exact List.mem_append_right _ (hq q hm)
   simp only[X14] at hm
   rw[hm]
   simp[AV.refs]
 exact h.elim
theorem Tj {T:TT}{t:Nat}{x key v:AV}{ob:List (Option OB)}{K:AV->W->Prop}(h:LQ T t x key v ob K) :
  ∃u w,K u w/\(∀q∈w,q.1∈x.refs++v.refs)/\∀ob',Agree (x.refs++v.refs) ob ob'->∀K':AV->W->Prop,K' u w->LQ T t x key v ob' K':=by
 unfold LQ at h ⊢
 split at h
 ·rcases h with h | h
  ·obtain⟨u,w,h1,h2,h3⟩:=T8 h
   exact⟨u,w,h1,h2,fun ob' ha K' hK=>.inl (h3 ob' ha K' hK)⟩
  obtain⟨u,w,h1,h2,h3⟩:=Yt h
  exact⟨u,w,h1,h2,fun ob' ha K' hK=>.inr (h3 ob' ha K' hK)⟩
 exact T8 h
theorem E3 {o:Option AV}{dflt:Int}{K:Int->Prop}(h:Dp o dflt K) :∃i,K i/\∀K':Int->Prop,K' i->Dp o dflt K':=by
 unfold Dp at h ⊢
 split at h
 ·exact⟨_,h,fun K' hK=>hK⟩
 ·exact⟨_,h,fun K' hK=>hK⟩
 exact h.elim
theorem Zy {sz:Nat}{d:D}{lo hi:Option AV}{K:AV->Prop}(h:Kv sz d lo hi K) :∃v,K v/\v.isOsl=false/\∀K':AV->Prop,K' v->Kv sz d lo hi K':=by
 cases d with
 | lst sz' es=>
  simp only[Kv,AD] at h ⊢
  obtain⟨h0,h⟩:=h
  obtain⟨l,h,hl⟩:=E3 h
  obtain⟨u,⟨hc,ys,hy,h⟩,hu⟩:=E3 h
  exact⟨_,h,rfl,fun K' hK=>⟨h0,hl _ (hu _ ⟨hc,ys,hy,hK⟩)⟩⟩
 | _=>simp[Kv] at h
theorem RU {T:TT}{e:Nat}{x:AV}{lo hi:Option AV}{ob:List (Option OB)}{K:AV->W->Prop}(h:KT T e x lo hi ob K) :
  ∃v w,K v w/\(v.isOsl=true->w=[])/\(∀q∈w,q.1∈x.refs)/\∀ob',Agree x.refs ob ob'->∀K':AV->W->Prop,K' v w->KT T e x lo hi ob' K':=by
 unfold KT at h ⊢
 rw[AD] at h
 obtain⟨h0,h⟩:=h
 obtain⟨d,w,h,hq,hd⟩:=NY h
 obtain⟨v,h,hno,hv⟩:=Zy h
 exact⟨v,w,h,fun e=>by rw[hno] at e;simp at e,hq,fun ob' ha K' hK=>(AD _ _).2 ⟨h0,hd ob' ha _ (hv _ hK)⟩⟩
theorem aK {T:TT}{e r n:Nat}{lo hi:Option AV}{ob:List (Option OB)}{K:AV->W->Prop}(h:Rl T e r n lo hi ob K) :
  ∃v w,K v w/\(v.isOsl=true->w=[])/\(∀q∈w,q.1 ∈ [r])/\∀ob',Agree [r] ob ob'->∀K':AV->W->Prop,K' v w->Rl T e r n lo hi ob' K':=by
 unfold Rl at h ⊢
 rw[AD] at h
 obtain⟨h0,h⟩:=h
 obtain⟨o,h,ho⟩:=CB h
 cases o with
 | box=>exact h.elim
 | map=>exact h.elim
 | amap=>exact h.elim
 | gone=>exact h.elim
 | row e' sz es f=>
  simp only[AD] at h
  obtain⟨h1,h⟩:=h
  obtain⟨l,h,hl⟩:=E3 h
  obtain⟨u,⟨hc,hn,a,k,ha,hk,h⟩,hu⟩:=E3 h
  exact⟨_,_,h,fun _=>rfl,fun q hq=>by simp at hq,fun ob' hag K' hK=>(AD _ _).2 ⟨h0,ho ob' (hag r (by simp)) _ (by simp only[AD];exact⟨h1,hl _ (hu _ ⟨hc,hn,a,k,ha,hk,hK⟩)⟩)⟩⟩
theorem Va {T:TT}{e self r n:Nat}{lo hi mx:Option AV}{ob:List (Option OB)}{K:AV->W->Prop}(h:MU T e self r n lo hi mx ob K) :
  ∃v w,K v w/\(v.isOsl=true->w=[])/\(∀q∈w,q.1 ∈ [self,r])/\∀ob',Agree [self,r] ob ob'->∀K':AV->W->Prop,K' v w->MU T e self r n lo hi mx ob' K':=by
 unfold MU at h ⊢
 have hq:=h
 rw[CC,AD] at h
 obtain⟨hs,h0,h⟩:=h
 obtain⟨o,h,ho⟩:=CB h
 cases o with
 | box=>exact h.elim
 | map=>exact h.elim
 | amap=>exact h.elim
 | gone=>exact h.elim
 | row e' sz es f=>
  simp only[AD] at h
  obtain⟨h1,h⟩:=h
  obtain⟨l,h,hl⟩:=E3 h
  obtain⟨u,h,hu⟩:=E3 h
  obtain⟨q,⟨hc,hn,zs,hz,h⟩,hm⟩:=E3 h
  refine⟨_,_,h,fun e=>by simp[AV.isOsl] at e,fun q hq=>?_,fun ob' hag K' hK=>KB hq (hag self (by simp)) ((AD _ _).2 ⟨h0,ho ob' (hag r (by simp)) _ (by simp only[AD];exact⟨h1,hl _ (hu _ (hm _ ⟨hc,hn,zs,hz,hK⟩))⟩)⟩)⟩
  simp only[List.mem_cons,List.not_mem_nil,or_false] at hq
  rcases hq with rfl | rfl<;>simp
theorem UE {T:TT}{t self:Nat}{x:AV}{lo hi mx:Option AV}{ob:List (Option OB)}{K:AV->W->Prop}(h:Nn T t self x lo hi mx ob K) :
  ∃v w,K v w/\(v.isOsl=true->w=[])/\(∀q∈w,q.1∈self::x.refs)/\∀ob',Agree (self::x.refs) ob ob'->∀K':AV->W->Prop,K' v w->Nn T t self x lo hi mx ob' K':=by
 unfold Nn at h ⊢
 split at h
 ·split at h
  ·split at h
   ·obtain⟨v,w,h1,hos,h2,h3⟩:=Va h
    exact⟨v,w,h1,hos,fun q hq=>by simpa[AV.refs] using h2 q hq,fun ob' ha K' hK=>h3 ob' (ha.mono fun r hr=>by simpa[AV.refs] using hr) K' hK⟩
   exact h.elim
  exact h.elim
 exact h.elim
theorem VL {T:TT}{t self:Nat}{x:AV}{lo hi:Option AV}{ob:List (Option OB)}{K:AV->W->Prop}(h:QL T t self x lo hi ob K) :
  ∃v w,K v w/\(v.isOsl=true->w=[])/\(∀q∈w,q.1∈self::x.refs)/\∀ob',Agree (self::x.refs) ob ob'->∀K':AV->W->Prop,K' v w->QL T t self x lo hi ob' K':=by
 unfold QL at h ⊢
 split at h
 ·split at h
  ·rename_i r n
   rcases h with h | h | h
   ·obtain⟨v,w,h1,hos,h2,h3⟩:=RU h
    exact⟨v,w,h1,hos,fun q hq=>X19 _ (h2 q hq),fun ob' ha K' hK=>.inl (h3 ob' (ha.mono fun r hr=>X19 _ hr) K' hK)⟩
   ·obtain⟨v,w,h1,hos,h2,h3⟩:=aK h
    exact⟨v,w,h1,hos,fun q hq=>X19 _ (by simpa[AV.refs] using h2 q hq),fun ob' ha K' hK=>.inr (.inl (h3 ob' (ha.mono fun r hr=>X19 _ (by simpa[AV.refs] using hr)) K' hK))⟩
   obtain⟨v,w,h1,hos,h2,h3⟩:=Va h
   exact⟨v,w,h1,hos,fun q hq=>by simpa[AV.refs] using h2 q hq,fun ob' ha K' hK=>.inr (.inr (h3 ob' (ha.mono fun r hr=>by simpa[AV.refs] using hr) K' hK))⟩
  ·rcases h with h | h
   ·obtain⟨v,w,h1,hos,h2,h3⟩:=RU h
    exact⟨v,w,h1,hos,fun q hq=>X19 _ (h2 q hq),fun ob' ha K' hK=>.inl (h3 ob' (ha.mono fun r hr=>X19 _ hr) K' hK)⟩
   rw[AD] at h
   obtain⟨h0,h⟩:=h
   obtain⟨l,h,hl⟩:=E3 h
   obtain⟨u,⟨hc,h⟩,hu⟩:=E3 h
   exact⟨_,_,h,fun _=>rfl,fun q hq=>by simp at hq,fun ob' _ K' hK=>.inr ((AD _ _).2 ⟨h0,hl _ (hu _ ⟨hc,hK⟩)⟩)⟩
  obtain⟨v,w,h1,hos,h2,h3⟩:=RU h
  exact⟨v,w,h1,hos,fun q hq=>X19 _ (h2 q hq),fun ob' ha K' hK=>h3 ob' (ha.mono fun r hr=>X19 _ hr) K' hK⟩
 ·split at h
  ·obtain⟨l,h,hl⟩:=E3 h
   obtain⟨u,⟨hc,h⟩,hu⟩:=E3 h
   exact⟨_,_,h,fun _=>rfl,fun q hq=>by simp at hq,fun ob' _ K' hK=>hl _ (hu _ ⟨hc,hK⟩)⟩
  exact h.elim
 exact h.elim
theorem YG {T:TT}{t u self:Nat}{x n:AV}{ob:List (Option OB)}{K:AV->W->Prop}(h:Pg T t u self x n ob K) :
  ∃v w,K v w/\(∀q∈w,q.1∈self::x.refs)/\∀ob',Agree (self::x.refs) ob ob'->∀K':AV->W->Prop,K' v w->Pg T t u self x n ob' K':=by
 unfold Pg at h
 split at h
 ·rename_i r k
  unfold Vq at h
  split at h
  ·rename_i e n hk hku
   obtain⟨o,h,ho⟩:=CB h
   cases o with
   | box=>exact h.elim
   | map=>exact h.elim
   | amap=>exact h.elim
   | gone=>exact h.elim
   | row e' sz es f=>
    simp only[AD] at h
    obtain⟨h0,h1,z,hz,zs,hzs,h⟩:=h
    refine⟨_,_,h,fun q hq=>by simp only[X14] at hq;simp[hq,AV.refs],fun ob' ha K' hK=>?_⟩
    unfold Pg Vq
    simp only[hk,hku]
    exact ho ob' (ha r (by simp[AV.refs])) _ (by simp only[AD];exact⟨h0,h1,z,hz,zs,hzs,hK⟩)
  exact h.elim
 ·rename_i d
  unfold We at h
  split at h
  ·rename_i e szn n hk hku hxn
   cases hxn
   have h0:=h
   rw[CC] at h
   obtain⟨_,h⟩:=h
   rw[AD] at h
   obtain⟨h1,hb,z,hz,zs,hzs,h⟩:=h
   refine⟨_,_,h,fun q hq=>by simp only[X14] at hq;simp[hq],fun ob' ha K' hK=>?_⟩
   unfold Pg We
   simp only[hk,hku]
   refine KB h0 (ha _ (by simp)) ?_
   exact (AD _ _).2 ⟨h1,hb,z,hz,zs,hzs,hK⟩
  exact h.elim
 exact h.elim
theorem Zx {T:TT}{t r a n m:Nat}{ob:List (Option OB)}{K:AV->W->Prop}(h:Oq T t r a n m ob K) :
  ∃v w,K v w/\(∀q∈w,q.1 ∈ [r])/\∀ob',Agree [r] ob ob'->∀K':AV->W->Prop,K' v w->Oq T t r a n m ob' K':=by
 unfold Oq at h ⊢
 split at h
 ·obtain⟨o,h,ho⟩:=CB h
  cases o with
  | box=>exact h.elim
  | map=>exact h.elim
  | amap=>exact h.elim
  | gone=>exact h.elim
  | row e' sz es f=>
   simp only[AD] at h
   obtain⟨h0,h1,z,hz,zs,hzs,h⟩:=h
   exact⟨_,_,h,fun q hq=>by simp only[X14] at hq;simp[hq],fun ob' ha K' hK=>ho ob' (ha r (by simp)) _ (by simp only[AD];exact⟨h0,h1,z,hz,zs,hzs,hK⟩)⟩
 exact h.elim
theorem YX {T:TT}{e r a n m sz':Nat}{ys:List D}{ob:List (Option OB)}{K:AV->W->Prop}(h:Qq T e r a n m sz' ys ob K) :
  ∃v w,K v w/\(∀q∈w,q.1 ∈ [r])/\∀ob',Agree [r] ob ob'->∀K':AV->W->Prop,K' v w->Qq T e r a n m sz' ys ob' K':=by
 unfold Qq at h ⊢
 obtain⟨o,h,ho⟩:=CB h
 cases o with
 | box=>exact h.elim
 | map=>exact h.elim
 | amap=>exact h.elim
 | gone=>exact h.elim
 | row e' sz es f=>
  simp only[AD] at h
  obtain⟨h0,h1,zs,hzs,k,hk,h⟩:=h
  exact⟨_,_,h,fun q hq=>by simp only[X14] at hq;simp[hq],fun ob' ha K' hK=>ho ob' (ha r (by simp)) _ (by simp only[AD];exact⟨h0,h1,zs,hzs,k,hk,hK⟩)⟩
theorem cP {T:TT}{t:Nat}{x y:AV}{ob:List (Option OB)}{K:AV->W->Prop}(h:Sz T t x y ob K) :
  ∃v w,K v w/\(∀q∈w,q.1∈x.refs)/\∀ob',Agree (x.refs++y.refs) ob ob'->∀K':AV->W->Prop,K' v w->Sz T t x y ob' K':=by
 unfold Sz at h ⊢
 split at h
 ·obtain⟨sz,ys,h,hy⟩:=Xk h
  split at h
  ·rename_i r n
   obtain⟨v,w,h1,h2,h3⟩:=YX h
   exact⟨v,w,h1,fun q hq=>by simpa[AV.refs] using h2 q hq,fun ob' ha K' hK=>hy ob' (ha.mono fun q hq=>List.mem_append_right _ hq) _ (h3 ob' (ha.mono fun q hq=>List.mem_append_left _ (by simpa[AV.refs] using hq)) K' hK)⟩
  ·rename_i r a n m
   obtain⟨v,w,h1,h2,h3⟩:=YX h
   exact⟨v,w,h1,fun q hq=>by simpa[AV.refs] using h2 q hq,fun ob' ha K' hK=>hy ob' (ha.mono fun q hq=>List.mem_append_right _ hq) _ (h3 ob' (ha.mono fun q hq=>List.mem_append_left _ (by simpa[AV.refs] using hq)) K' hK)⟩
  exact h.elim
 exact h.elim
theorem SG {T:TT}{t:Nat}{x y:AV}{ob:List (Option OB)}{K:AV->Prop}(h:GA T t x y ob K) :
  ∃v,K v/\∀ob',Agree x.refs ob ob'->∀K':AV->Prop,K' v->GA T t x y ob' K':=by
 unfold GA at h ⊢
 split at h
 ·split at h
  ·simp only[AD] at h ⊢
   obtain⟨h0,h1,h2,v,h3,h4,h⟩:=h
   exact⟨_,h,fun ob' _ K' hK=>⟨h0,h1,h2,v,h3,h4,hK⟩⟩
  ·rename_i r n _
   obtain⟨o,h,ho⟩:=CB h
   cases o with
   | box cs=>
    simp only[AD] at h
    obtain⟨h0,h1,h2,h⟩:=h
    exact⟨_,h,fun ob' ha K' hK=>ho ob' (ha r (by simp[AV.refs])) _ (by simp only[AD];exact⟨h0,h1,h2,hK⟩)⟩
   | map=>exact h.elim
   | amap=>exact h.elim
   | gone=>exact h.elim
   | row e' sz es f=>
    simp only[AD] at h
    obtain⟨h0,h1,h2,h3,h⟩:=h
    exact⟨_,h,fun ob' ha K' hK=>ho ob' (ha r (by simp[AV.refs])) _ (by simp only[AD];exact⟨h0,h1,h2,h3,hK⟩)⟩
  ·simp only[AD] at h ⊢
   obtain⟨h0,h1,⟨h2,h⟩|⟨h3,h2,j,hj,h⟩⟩:=h
   ·exact⟨_,h,fun ob' _ K' hK=>⟨h0,h1,.inl ⟨h2,hK⟩⟩⟩
   exact⟨_,h,fun ob' _ K' hK=>⟨h0,h1,.inr ⟨h3,h2,j,hj,hK⟩⟩⟩
  exact h.elim
 exact h.elim
theorem Ux {T:TT}{t:Nat}{x y:AV}{ob:List (Option OB)}{K:AV->Prop}(h:Gz T t x y ob K) :
  ∃v,K v/\∀ob',Agree x.refs ob ob'->∀K':AV->Prop,K' v->Gz T t x y ob' K':=by
 unfold Gz at h ⊢
 split at h
 ·rename_i r a n m
  unfold Ja at h ⊢
  split at h
  ·split at h
   ·obtain⟨o,h,ho⟩:=CB h
    cases o with
    | box=>exact h.elim
    | map=>exact h.elim
    | amap=>exact h.elim
    | gone=>exact h.elim
    | row e' sz es f=>
     simp only[AD] at h
     obtain⟨h0,h1,h2,h3,j,hj,h⟩:=h
     exact⟨_,h,fun ob' ha K' hK=>ho ob' (ha r (by simp[AV.refs])) _ (by simp only[AD];exact⟨h0,h1,h2,h3,j,hj,hK⟩)⟩
   exact h.elim
  exact h.elim
 exact SG h
theorem Qw {x:AV}{K:List AV->Prop}(h:H6 x K) :∃l,K l/\∀K':List AV->Prop,K' l->H6 x K':=by
 unfold H6 at h ⊢
 split at h
 ·rename_i cs
  have hm :∀(cs:List D) (K:List AV->Prop),NU (fun c K=>K (AV.d c)) cs K↔K (cs.map .d):=by
   intro cs
   induction cs with
   | nil=>intro K;simp[NU]
   | cons c cs ih=>intro K;simp[NU,ih]
  rw[hm] at h
  exact⟨_,h,fun K' hK=>(hm _ _).2 hK⟩
 ·exact⟨_,h,fun K' hK=>hK⟩
 exact h.elim
theorem cJ {T:TT}{t off:Nat}{cs:List AV}{K:AV->Prop}(h:TL T t cs off K) :∃v,K v/\∀K':AV->Prop,K' v->TL T t cs off K':=by
 unfold TL at h ⊢
 split at h
 ·simp only[Ds,AD,DG,EJ] at h ⊢
  exact⟨_,h.2,fun K' hK=>⟨h.1,hK⟩⟩
 ·split at h
  ·obtain⟨v,h1,h2⟩:=Hr h
   exact⟨v,h1,fun K' hK=>h2 K' hK⟩
  exact h.elim
 exact h.elim
theorem ag {T:TT}{t:Nat}{x y:AV}{K:AV->Prop}(h:N8 T t x y K) :∃v,K v/\∀K':AV->Prop,K' v->N8 T t x y K':=by
 unfold N8 at h ⊢
 split at h
 ·split at h
  ·obtain⟨h1,c,h2,h⟩:=h
   exact⟨_,h,fun K' hK=>⟨h1,c,h2,hK⟩⟩
  ·obtain⟨cs,h,hx⟩:=Qw h
   obtain⟨h1,h⟩:=h
   split at h
   ·rename_i hc
    obtain⟨a,ha,h⟩:=h
    obtain⟨v,g1,g2⟩:=Hr h
    exact⟨v,g1,fun K' hK=>hx _ ⟨h1,⟨a,ha,g2 K' hK⟩⟩⟩
   exact h.elim
  exact h.elim
 exact h.elim
theorem ah {T:TT}{t i:Nat}{x:AV}{K:AV->Prop}(h:Oi T t i x K) :∃v,K v/\∀K':AV->Prop,K' v->Oi T t i x K':=by
 unfold Oi at h ⊢
 split at h
 ·split at h
  ·obtain⟨cs,h,hx⟩:=Qw h
   obtain⟨v,g1,g2⟩:=cJ h
   exact⟨v,g1,fun K' hK=>hx _ (g2 K' hK)⟩
  exact h.elim
 exact h.elim
theorem W5 {T:TT}{t i:Nat}{K:Nat->Nat->Nat->Prop}(h:Iu T t i K) :∃a b c,K a b c/\∀K':Nat->Nat->Nat->Prop,K' a b c->Iu T t i K':=by
 unfold Iu at h ⊢
 split at h
 ·split at h
  ·split at h
   ·exact h.elim
   exact⟨_,_,_,h,fun K' hK=>hK⟩
  exact h.elim
 exact h.elim
theorem cE {T:TT}{src dst:Nat}{x:AV}{ob:List (Option OB)}{K:AV->Prop}(h:Sj T src dst x ob K) :
  ∃v,K v/\∀ob',Agree x.refs ob ob'->∀K':AV->Prop,K' v->Sj T src dst x ob' K':=by
 unfold Sj at h ⊢
 rw[AD] at h
 obtain⟨h0,h⟩:=h
 split at h
 ·obtain⟨r,h1,h⟩:=h
  exact⟨_,h,fun ob' _ K' hK=>(AD _ _).2 ⟨h0,r,h1,hK⟩⟩
 ·exact⟨_,h,fun ob' _ K' hK=>(AD _ _).2 ⟨h0,hK⟩⟩
 ·split at h
  ·split at h
   ·rename_i hke
    rw[AD] at h
    obtain⟨h1,h⟩:=h
    obtain⟨sz,es,h,hx⟩:=Xk h
    rw[AD] at h
    obtain⟨h2,l,h3,h⟩:=h
    exact⟨_,h,fun ob' ha K' hK=>(AD _ _).2 ⟨h0,(AD _ _).2 ⟨h1,hx ob' ha _ ((AD _ _).2 ⟨h2,l,h3,hK⟩)⟩⟩⟩
   exact h.elim
  exact h.elim
 exact h.elim
theorem X5 {T:TT}{ty self:Nat}{x:AV}{ob:List (Option OB)}{K:AV->W->Prop}(h:S7 T ty self x ob K) :
  ∃v w,K v w/\(∀q∈w,q.1=self)/\∀ob',ob'[self]?=ob[self]?->∀K':AV->W->Prop,K' v w->S7 T ty self x ob' K':=by
 unfold S7 at h ⊢
 split at h
 ·split at h
  ·split at h
   ·rename_i hs
    rw[AD] at h
    exact⟨_,_,h.2,fun q hq=>by simp only[X14] at hq;simp[hq],fun ob' ha K' hK=>by rw[ha,hs];exact (AD _ _).2 ⟨h.1,hK⟩⟩
   rename_i hs
   refine⟨_,_,h,fun q hq=>by simp at hq,fun ob' ha K' hK=>?_⟩
   rw[ha]
   split
   ·rename_i h2;exact absurd h2 hs
   exact hK
  exact h.elim
 obtain⟨v,h1,h2⟩:=Hr h
 exact⟨v,[],h1,fun q hq=>by simp at hq,fun ob' _ K' hK=>h2 _ hK⟩
theorem dH (r:Nat) :∀(l:List Nat) (n:Nat) {F N:Nat->Prop},I5.go r l n F N->(∃k,F k/\∀F' N':Nat->Prop,F' k->I5.go r l n F' N')\/(∃k,N k/\∀F' N':Nat->Prop,N' k->I5.go r l n F' N')
 | [],n,F,N,h=>.inr ⟨n,h,fun F' N' h'=>h'⟩
 | x::l,n,F,N,h=>by
  simp only[I5.go] at h ⊢
  cases hb:Nat.beq x r with
  | true=>simp only[hb] at h ⊢;exact .inl ⟨n,h,fun F' N' h'=>h'⟩
  | false=>
   simp only[hb] at h ⊢
   rcases dH r l (n+1) h with ⟨k,h1,h2⟩|⟨k,h1,h2⟩
   ·exact .inl ⟨k,h1,h2⟩
   exact .inr ⟨k,h1,h2⟩
theorem Rq {r:Nat}{ρ:List Nat}{K:Nat->List Nat->Prop}(h:I5.refK r ρ K) :∃i ρ',K i ρ'/\(∀x∈ρ',x∈ρ\/x=r)/\∀K':Nat->List Nat->Prop,K' i ρ'->I5.refK r ρ K':=by
 rcases dH r ρ 0 h with ⟨k,h1,h2⟩|⟨k,h1,h2⟩
 ·exact⟨k,ρ,h1,fun x hx=>.inl hx,fun K' hK=>h2 _ _ hK⟩
 exact⟨k,_,h1,fun x hx=>by simpa using hx,fun K' hK=>h2 _ _ hK⟩
theorem Xz :∀{caps:List AV} {ρ:List Nat} {K:List AV->List Nat->Prop},I5.capsK caps ρ K->∃c' ρ',K c' ρ'/\(∀x∈ρ',x∈ρ\/x∈AV.refs.refsL caps)/\∀K':List AV->List Nat->Prop,K' c' ρ'->I5.capsK caps ρ K'
 | [],ρ,K,h=>⟨_,_,h,fun x hx=>.inl hx,fun K' hK=>hK⟩
 | c::caps,ρ,K,h=>by
  cases c<;>simp only[I5.capsK] at h ⊢
  case ref r off=>
   obtain⟨i,ρ1,h,h1,h2⟩:=Rq h
   obtain⟨c',ρ2,h,h3,h4⟩:=Xz h
   refine⟨_,ρ2,h,fun x hx=>?_,fun K' hK=>h2 _ (h4 _ hK)⟩
   rcases h3 x hx with hx | hx
   ·rcases h1 x hx with hx | hx
    ·exact .inl hx
    exact .inr (by simp[AV.refs.refsL,AV.refs,hx])
   exact .inr (by simp[AV.refs.refsL,hx])
theorem eJ {keep:Bool}{ob:List (Option OB)}{a:AV}{ρ:List Nat}{K:AV->List Nat->W->Prop}(h:I5 keep ob a ρ K) :
  ∃a' ρ' w,K a' ρ' w/\(∀q∈w,q.1∈a.refs)/\(∀x∈ρ',x∈ρ\/x∈a.refs)/\∀ob',Agree a.refs ob ob'->∀K':AV->List Nat->W->Prop,K' a' ρ' w->I5 keep ob' a ρ K':=by
 cases a<;>simp only[I5] at h ⊢
 case d x=>
  split at h
  ·exact⟨_,_,_,h,fun q hq=>by simp at hq,fun x hx=>.inl hx,fun ob' _ K' hK=>hK⟩
  exact⟨_,_,_,(EH _ _).1 h,fun q hq=>by simp at hq,fun x hx=>.inl hx,fun ob' _ K' hK=>(EH _ _).2 hK⟩
 case own r n=>
  cases keep with
  | true=>
   obtain⟨i,ρ1,h,h1,h2⟩:=Rq h
   exact⟨_,_,_,h,fun q hq=>by simp at hq,fun x hx=>(h1 x hx).imp id fun e=>by simp[AV.refs,e],fun ob' _ K' hK=>h2 _ hK⟩
  | false=>
   obtain⟨x,w,h,hq,h2⟩:=NY h
   exact⟨_,_,_,h,hq,fun x hx=>.inl hx,fun ob' ha K' hK=>h2 ob' ha _ hK⟩
 case agg cs=>
  obtain⟨x,w,h,hq,h2⟩:=NY h
  exact⟨_,_,_,h,hq,fun x hx=>.inl hx,fun ob' ha K' hK=>h2 ob' ha _ hK⟩
 case ref r off=>
  obtain⟨i,ρ1,h,h1,h2⟩:=Rq h
  exact⟨_,_,_,h,fun q hq=>by simp at hq,fun x hx=>(h1 x hx).imp id fun e=>by simp[AV.refs,e],fun ob' _ K' hK=>h2 _ hK⟩
 case mp r=>
  obtain⟨i,ρ1,h,h1,h2⟩:=Rq h
  exact⟨_,_,_,h,fun q hq=>by simp at hq,fun x hx=>(h1 x hx).imp id fun e=>by simp[AV.refs,e],fun ob' _ K' hK=>h2 _ hK⟩
 case it g r=>
  obtain⟨i,ρ1,h,h1,h2⟩:=Rq h
  exact⟨_,_,_,h,fun q hq=>by simp at hq,fun x hx=>(h1 x hx).imp id fun e=>by simp[AV.refs,e],fun ob' _ K' hK=>h2 _ hK⟩
 case eref cs=>exact⟨_,_,_,h,fun q hq=>by simp at hq,fun x hx=>.inl hx,fun ob' _ K' hK=>hK⟩
 case fn f caps=>
  obtain⟨c',ρ1,h,h1,h2⟩:=Xz h
  exact⟨_,_,_,h,fun q hq=>by simp at hq,fun x hx=>(h1 x hx).imp id fun e=>by simpa[AV.refs] using e,fun ob' _ K' hK=>h2 _ hK⟩
theorem YH {keep:List Bool}{ob:List (Option OB)} :∀{asz:List AV} {ρ:List Nat} {K:List AV->List Nat->W->Prop},PW keep ob asz ρ K->
  ∃asz' ρ' w,K asz' ρ' w/\(∀q∈w,q.1∈AV.refs.refsL asz)/\(∀x∈ρ',x∈ρ\/x∈AV.refs.refsL asz)/\∀ob',Agree (AV.refs.refsL asz) ob ob'->∀K':List AV->List Nat->W->Prop,K' asz' ρ' w->PW keep ob' asz ρ K'
 | [],ρ,K,h=>⟨_,_,_,h,fun q hq=>by simp at hq,fun x hx=>.inl hx,fun ob' _ K' hK=>hK⟩
 | a::asz,ρ,K,h=>by
  simp only[PW] at h ⊢
  obtain⟨a',ρ1,w1,h,h1,h2,h3⟩:=eJ h
  obtain⟨asz',ρ2,w2,h,g1,g2,g3⟩:=YH h
  refine⟨_,_,_,h,fun q hq=>?_,fun x hx=>?_,fun ob' ha K' hK=>h3 ob' (ha.mono fun r hr=>by simp[AV.refs.refsL,hr]) _ (g3 ob' (ha.mono fun r hr=>by simp[AV.refs.refsL,hr]) _ hK)⟩
  ·simp only[AV.refs.refsL,X23]
   rcases X23.1 hq with hq | hq
   ·exact .inl (h1 q hq)
   exact .inr (g1 q hq)
  simp only[AV.refs.refsL,X23]
  rcases g2 x hx with hx | hx
  ·exact (h2 x hx).imp id .inl
  exact .inr (.inr hx)
theorem QA {ob:List (Option OB)} :∀{ρ:List Nat} {K:List OB->Prop},HB ob ρ K->∃l,K l/\∀ob',Agree ρ ob ob'->∀K':List OB->Prop,K' l->HB ob' ρ K'
 | [],K,h=>⟨_,h,fun ob' _ K' hK=>hK⟩
 | r::ρ,K,h=>by
  simp only[HB] at h ⊢
  obtain⟨o,h,ho⟩:=CB h
  cases o with
  | box cs=>
   simp only[IM] at h
   obtain⟨l,h1,h2⟩:=QA h.2
   exact⟨_,h1,fun ob' ha K' hK=>ho ob' (ha r (by simp)) _ (by simp only[IM];exact⟨h.1,h2 ob' (ha.mono fun r hr=>by simp[hr]) _ hK⟩)⟩
  | row e sz es f=>
   simp only[AD] at h
   obtain⟨hl,h⟩:=h
   obtain⟨l,h1,h2⟩:=QA h
   exact⟨_,h1,fun ob' ha K' hK=>ho ob' (ha r (by simp)) _ ((AD _ _).2 ⟨hl,h2 ob' (ha.mono fun r hr=>by simp[hr]) _ hK⟩)⟩
  | amap=>exact h.elim
  | gone=>exact h.elim
  | map k e es=>
   simp only at h
   obtain⟨l,h1,h2⟩:=QA h
   exact⟨_,h1,fun ob' ha K' hK=>ho ob' (ha r (by simp)) _ (h2 ob' (ha.mono fun r hr=>by simp[hr]) _ hK)⟩
theorem X2 {self:Nat} :∀{ρ:List Nat} {objs:List OB} {K:W->Prop},I1 ρ self objs K->∃w,K w/\(∀q∈w,q.1=self\/q.1∈ρ)/\∀K':W->Prop,K' w->I1 ρ self objs K'
 | [],[],K,h=>⟨_,h,fun q hq=>by simp at hq,fun K' hK=>hK⟩
 | [],[o],K,h=>by
  simp only[I1] at h ⊢
  split at h
  ·rename_i hc;exact⟨_,h,fun q hq=>by simp only[X14] at hq;simp[hq],fun K' hK=>hK⟩
  exact h.elim
 | r::ρ,o::os,K,h=>by
  simp only[I1] at h ⊢
  split at h
  ·obtain⟨w,h1,h3,h2⟩:=X2 h
   refine⟨_,h1,fun q hq=>?_,fun K' hK=>h2 _ hK⟩
   simp only[List.mem_cons] at hq
   rcases hq with hq | hq
   ·simp[hq]
   exact (h3 q hq).imp id fun e=>by simp[e]
  exact h.elim
 | [],_::_::_,K,h=>by simp[I1] at h
 | _::_,[],K,h=>by simp[I1] at h
theorem cd {cx:Cx}{f:FuncId}{self:Nat}{args:List AV}{ob:List (Option OB)}{K:AV->W->Prop}(h:WX cx f self args ob K) :
  ∃v w,K v w/\(∀q∈w,q.1∈self::AV.refs.refsL args)/\∀ob',Agree (self::AV.refs.refsL args) ob ob'->∀K':AV->W->Prop,K' v w->WX cx f self args ob' K':=by
 simp only[Vl] at h ⊢
 unfold MG at h ⊢
 obtain⟨asz',ρ,w,h,h1,h2,h3⟩:=YH h
 rw[AD] at h
 obtain⟨hap,h⟩:=h
 obtain⟨objs,h,h4⟩:=QA h
 obtain⟨res,objs',hC,hs,h⟩:=h
 rw[KY] at h
 obtain⟨a',hr,h⟩:=h
 obtain⟨w',h,h5,h6⟩:=X2 h
 have hρ :∀x∈ρ,x∈AV.refs.refsL args:=fun x hx=>(h2 x hx).resolve_left (by simp)
 refine⟨_,_,h,fun q hq=>?_,fun ob' ha K' hK=>h3 ob' (ha.mono fun r hr=>by simp[hr]) _ ((AD _ _).2 ⟨hap,h4 ob' (ha.mono fun r hr=>by simp[hρ r hr]) _ ⟨res,objs',hC,?_,(KY _ _ _ _).2 ⟨a',hr,h6 _ hK⟩⟩⟩)⟩
 ·rcases X23.1 hq with hq | hq
  ·exact X19 _ (h1 q hq)
  rcases h5 q hq with e | e
  ·simp[e]
  exact X19 _ (hρ _ e)
 rcases hs with hs | hs
 ·exact .inl hs
 exact .inr ((ha self (by simp)).trans hs)
theorem dz {l:List AV}{K:AV->Prop}(h:Yh l K) :∃v,K v/\∀K':AV->Prop,K' v->Yh l K':=by
 unfold Yh at h ⊢
 split at h
 ·obtain⟨r,h1,h⟩:=h;exact⟨_,h,fun K' hK=>⟨r,h1,hK⟩⟩
 exact h.elim
theorem dt {l:List AV}{K:AV->Prop}(h:ZE l K) :∃v,K v/\∀K':AV->Prop,K' v->ZE l K':=by
 unfold ZE at h ⊢
 split at h
 ·obtain⟨r,h1,h⟩:=h;exact⟨_,h,fun K' hK=>⟨r,h1,hK⟩⟩
 exact h.elim
end Go.AX
end
