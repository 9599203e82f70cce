/-
  Texts of one proof, packed.
-/
import Derived.Test.YtckndjeehbfpkaaGreatDoorK2
import Derived.Deep.LoopGhost
set_option linter.all false
set_option maxRecDepth 100000
set_option maxHeartbeats 4000000
open List renaming length_map→X10,length_append→X11,length_cons→X12,length_nil→X13,mem_singleton→X14,getElem?_eq_getElem→X15,getElem?_eq_some_iff→X16,mem_cons_of_mem→X19,length_set→X21,length_singleton→X22,mem_append→X23
open Option.some renaming injEq→X24,inj→X25
open Prod.mk renaming injEq→X26
open Bool renaming and_eq_true→X27
open Nat renaming le_of_ble_eq_true→X29,eq_of_beq_eq_true→X30,mul_le_mul_right→X31,add_mul→X32
section
namespace Go.AX
def obf (obl:List (Option OB)):Nat->Option OB:=fun r=>obl.getD r none
structure R (E:Env)(st:ASt)(a:Act)(w:World)(S:Sc)(φ:Nat->Option (Nat×Rp)):Prop where
 sz:a.tmps.size=st.tm.length
 tm :∀i (hi:i<st.tm.length),RepA S w φ (obf st.ob) st.tm[i] (a.tmps.getD i undef)/\Closed (obf st.ob) st.tm[i]
 df:a.defers=[]
 mem:Mem E w S φ (obf st.ob)
structure Trk where
 np:Nat
 φ0:Nat->Option (Nat×Rp)
 ob0:Nat->Option OB
def Trk.ok (tr:Trk)(φ:Nat->Option (Nat×Rp))(ob:Nat->Option OB):Prop:=∀r,r<tr.np->tr.ob0 r≠none->ob r≠none/\RefOK tr.φ0 tr.ob0 φ ob r
def RR (E:Env)(tr:Trk)(st:ASt)(a:Act)(w:World):Prop:=∃S φ,R E st a w S φ/\tr.ok φ (obf st.ob)
theorem Trk.ok.kept {tr:Trk}{w w':World}{S S':Sc}{φ φ':Nat->Option (Nat×Rp)}{ob ob':Nat->Option OB}(h:tr.ok φ ob)(k:Kept w S φ ob w' S' φ' ob'):tr.ok φ' ob':=
 fun r hr h0=>⟨k.c r (h r hr h0).1,(h r hr h0).2.trans (k.r r (h r hr h0).1)⟩
section
variable {P:Program} {E:Env} {tr:Trk} {w:World} {S:Sc} {φ:Nat->Option (Nat×Rp)}
theorem R.av {st:ASt}{a:Act}(h:R E st a w S φ)(x:Operand):RepA S w φ (obf st.ob) (evO st.tm x) (a.eval x)/\Closed (obf st.ob) (evO st.tm x):=by
 cases x with
 | tmp t=>
  simp only[evO,Act.eval]
  by_cases ht:t<st.tm.length
  ·have:=h.tm t ht
   have e:st.tm.getD t .dead=st.tm[t]:=by simp[ht]
   rw[e];exact this
  have e:st.tm.getD t .dead=.dead:=by simp[Nat.le_of_not_lt ht]
  rw[e];exact⟨.dead _,GW _⟩
 | const v=>
  simp only[evO,Act.eval]
  split
  ·rename_i hv;exact⟨.d _ _ (.val v hv),BJ _ _⟩
  exact⟨.dead _,GW _⟩
 | global g=>exact⟨.gl g,fun r hr=>by simp[evO,AV.refs] at hr⟩
 | func f=>exact⟨.fn f [] #[] (fun _=>undef) rfl (fun i hi=>by simp at hi) (fun i hi=>by simp at hi),fun r hr=>by simp[evO,AV.refs,AV.refs.refsL] at hr⟩
def wrL:List (Option OB)->W->List (Option OB)
 | ob,[]=>ob
 | ob,(r,o)::w=>wrL (ob.set r (some o)) w
theorem QT (ob:List (Option OB))(wr:W)(K:List (Option OB)->Prop):wrK ob wr K↔K (wrL ob wr):=by
 induction wr generalizing ob with
 | nil=>rfl
 | cons x wr ih=>obtain⟨r,o⟩:=x;simp[wrK,wrL,GK,ih]
theorem Xy (ob:List (Option OB))(wr:W)(h :∀r o,(r,o)∈wr->r<ob.length):obf (wrL ob wr)=Au (obf ob) wr:=by
 induction wr generalizing ob with
 | nil=>rfl
 | cons x wr ih=>
  obtain⟨r,o⟩:=x
  simp only[wrL,Au]
  rw[ih (ob.set r (some o)) fun r' o' hm=>by simpa using h r' o' (by simp[hm])]
  congr 1
  exact aR ob r o (h r o (by simp))
def KP (tm:List AV)(dst:Option Nat)(v:AV):List AV:=match dst with
 | some d=>tm.set d v
 | none=>tm
theorem HT (tm:List AV)(dst:Option Nat)(v:AV)(K:List AV->Prop):Lx tm dst v K↔K (KP tm dst v):=by
 cases dst<;>simp[Lx,KP,GK]
theorem LH (tm:List AV)(dst:Option Nat)(v:AV):(KP tm dst v).length=tm.length:=by
 cases dst<;>simp[KP]
theorem Z3 (tm:List AV)(dst:Option Nat)(v:AV)(i:Nat)(hi:i<tm.length):(KP tm dst v)[i]?=some (if dst=some i then v else tm[i]):=by
 cases dst with
 | none=>simp[KP,hi]
 | some d=>
  simp only[KP,List.getElem?_set,X24]
  by_cases h:d=i
  ·simp[h,hi]
  simp[h,hi]
theorem ah (a:Act)(dst:Option Nat)(v:Value)(i:Nat)(hi:i<a.tmps.size):(a.put dst v).tmps.getD i undef=if dst=some i then v else a.tmps.getD i undef:=by
 cases dst with
 | none=>simp[Act.put]
 | some d=>
  simp only[Act.put,X24]
  by_cases h:d=i
  ·subst h;simp[hi]
  simp[h,Array.getElem?_setIfInBounds_ne]
theorem R.put {st:ASt}{a:Act}(h:R E st a w S φ){w':World}{S':Sc}{φ':Nat->Option (Nat×Rp)}{ob':List (Option OB)}{dst:Option Nat}{out:AV}{v:Value}(m:Mem E w' S' φ' (obf ob'))(k:Kept w S φ (obf st.ob) w' S' φ' (obf ob'))
  (hv:RepA S' w' φ' (obf ob') out v) (hc:Closed (obf ob') out):R E ⟨KP st.tm dst out,ob'⟩ (a.put dst v) w' S' φ':=by
 refine⟨?_,fun i hi=>?_,?_,m⟩
 ·rw[LH,<- h.sz];cases dst<;>simp[Act.put]
 ·simp only[LH] at hi
  have e1:=Z3 st.tm dst out i hi
  have e2:=ah a dst v i (by rw[h.sz];exact hi)
  have hi':i<(KP st.tm dst out).length:=by rw[LH];exact hi
  rw[X15 hi'] at e1
  have e1:=X25 e1
  simp only[e1,e2]
  split
  ·exact⟨hv,hc⟩
  exact⟨k.rep (h.tm i hi).2 (h.tm i hi).1,k.closed (h.tm i hi).2⟩
 rw[<- h.df];cases dst<;>rfl
theorem Kq {o:Oper}{a:Act}{Q:Value->World->Prop}{next:Act->World->Prop}{Qx:Exit->Act->World->Prop}(h:RunOK P o a.eval w Q)(hn :∀v w',Q v w'->next (a.put o.dst v) w'):o.wp P a w next Qx:=by
 unfold Oper.wp
 unfold RunOK at h
 generalize (execOp a.eval o).run P w=r at *
 cases r with
 | ok x w'=>
  cases x<;>simp only[Oper.upon] at h ⊢
  case value v=>exact hn _ _ h
  case skip=>exact hn _ _ h
  case enter f args=>
   refine h.mono ?_
   rintro e w'' ⟨v,rfl,hq⟩
   exact hn _ _ hq
  all_goals exact h.elim
 | halt x w'=>exact h.elim
theorem R.known {st:ASt}{a:Act}(h:R E st a w S φ){t:Nat}{b c:Bool}(hb:st.tm.getD t .dead=.b b)(hc:b=c):R E ⟨st.tm.set t (.b c),st.ob⟩ a w S φ:=by
 subst hc
 have ht:t<st.tm.length:=by
  refine Nat.lt_of_not_le fun hge=>?_
  simp[hge] at hb
 have e:st.tm.set t (.b b)=st.tm:=by
  have:st.tm[t]=.b b:=by simpa[ht] using hb
  rw[<- this];exact List.set_getElem_self ht
 rw[e];exact h
theorem N8 {ops:Array Oper}{o:Oper}{a:Act}{K:ASt->Prop}{Q:Exit->Act->World->Prop}{next:Act->World->Prop}{st:ASt}{Y:List AV->Prop}
  (yes :∀tm:List AV,RR E tr ⟨tm,st.ob⟩ a w->Y tm->o.wp P a w next Q)
  (h:Jp ops o st.tm Y (fun tm=>Lx tm o.dst (.tup []) fun tm=>K ⟨tm,st.ob⟩)) (hR:RR E tr st a w) (hn :∀st' a' w',K st'->RR E tr st' a' w'->next a' w') :
  if Region.wanted o (yielded ops a.tmps) then o.wp P a w next Q else next (a.put o.dst undef) w:=by
 obtain⟨S,φ,hR,htr⟩:=hR
 obtain⟨tm,ob⟩:=st
 simp only at h yes
 have yes :∀{tm:List AV},R E ⟨tm,ob⟩ a w S φ->Y tm->o.wp P a w next Q:=fun hR h=>yes _ ⟨S,φ,hR,htr⟩ h
 have no :∀{tm:List AV},R E ⟨tm,ob⟩ a w S φ->Lx tm o.dst (.tup []) (fun tm=>K ⟨tm,ob⟩)->next (a.put o.dst undef) w:=by
  intro tm hR h
  rw[HT] at h
  exact hn _ _ _ h ⟨S,φ,hR.put hR.mem (.refl _ _ _ _) (.tup [] #[] (fun _=>undef) rfl (fun i hi=>by simp at hi) (fun i hi=>by simp at hi)) (fun r hr=>by simp[AV.refs,AV.refs.refsL] at hr),htr⟩
 unfold Jp at h
 cases hg:o.guard with
 | none=>
  simp only[hg] at h
  have hw:Region.wanted o (yielded ops a.tmps)=true:=by unfold Region.wanted;rw[hg]
  simp only[hw,if_true]
  exact yes hR h
 | some g=>
  obtain⟨j,want⟩:=g
  simp only[hg] at h
  cases hd:(ops[j]?).bind (·.dst) with
  | none=>simp[hd] at h
  | some t=>
   simp only[hd] at h
   split at h
   ·rename_i b hb
    have hb0:=hb
    have ht:t<tm.length:=by
     refine Nat.lt_of_not_le fun hge=>?_
     simp[hge] at hb
    have hrep:=(hR.tm t ht).1
    have e:tm.getD t .dead=tm[t]:=by simp[ht]
    rw[e] at hb
    simp only at hrep
    rw[hb] at hrep
    have hval:=hrep.bool
    have hts:t<a.tmps.size:=by rw[hR.sz];exact ht
    have hy:yielded ops a.tmps j=some b:=by
     unfold yielded
     rw[hd]
     have:a.tmps[t]?=some (.bool b):=by
      simp[hts] at hval ⊢
      exact hval
     simp[this]
    have hw:Region.wanted o (yielded ops a.tmps)=(b==want):=by
     unfold Region.wanted;rw[hg];simp only[hy];cases b<;>cases want<;>rfl
    simp only[hw]
    cases b<;>cases want<;>simp only[KN,GK] at h<;>simp
    ·exact yes (hR.known hb0 rfl) h
    ·exact no (hR.known hb0 rfl) h
    ·exact no (hR.known hb0 rfl) h
    exact yes (hR.known hb0 rfl) h
   ·rename_i vs hb
    have ht:t<tm.length:=by
     refine Nat.lt_of_not_le fun hge=>?_
     simp[hge] at hb
    have hrep:=(hR.tm t ht).1
    have e:tm.getD t .dead=tm[t]:=by simp[ht]
    rw[e] at hb
    simp only at hrep
    rw[hb] at hrep
    have hts:t<a.tmps.size:=by rw[hR.sz];exact ht
    have hy:yielded ops a.tmps j=none:=by
     unfold yielded
     rw[hd]
     generalize hv:a.tmps.getD t undef=v at hrep
     cases hrep with | tup _ us _ _ _ _=>
     have:a.tmps[t]?=some (.tuple us):=by
      simp[hts] at hv ⊢
      exact hv
     simp[this]
    have hw:Region.wanted o (yielded ops a.tmps)=false:=by
     unfold Region.wanted;rw[hg];simp only[hy];rfl
    simp only[hw]
    simpa using no hR h
   exact h.elim
theorem Vo {ops:Array Oper}{o:Oper}{F:(Operand->AV)->List (Option OB)->(AV->W->Prop)->Prop}
  (hF :∀{w:World} {S:Sc} {φ:Nat->Option (Nat×Rp)} {obl:List (Option OB)} {av:Operand->AV} {ρ:Operand->Value} {K:AV->W->Prop} (_:Mem E w S φ (fun r=>obl.getD r none)) (_ :∀x,RepA S w φ (fun r=>obl.getD r none) (av x) (ρ x)/\Closed (fun r=>obl.getD r none) (av x)) (_:F av obl K),
   ∃out wr,K out wr/\(∀r o,(r,o)∈wr->r<obl.length)/\RunOK P o ρ w (Post E w S φ (fun r=>obl.getD r none) out wr))
  {st:ASt} {a:Act} {K:ASt->Prop} {Q:Exit->Act->World->Prop}
  (h:stepG ops o F st K) (hR:RR E tr st a w) {next:Act->World->Prop} (hn :∀st' a' w',K st'->RR E tr st' a' w'->next a' w') :
  if Region.wanted o (yielded ops a.tmps) then o.wp P a w next Q else next (a.put o.dst undef) w:=by
 obtain⟨tm0,ob⟩:=st
 refine N8 (Y:=fun tm=>F (evO tm) ob (fun v w=>Lx tm o.dst v fun tm=>wrK ob w fun ob=>K ⟨tm,ob⟩)) (fun tm hR h=>?_) (st:=⟨tm0,ob⟩) h hR hn
 simp only at hR
 obtain⟨S,φ,hR,htr⟩:=hR
 obtain⟨out,wr,hK,hr,hrun⟩:=hF hR.mem (ρ:=a.eval) (fun x=>hR.av x) h
 rw[HT,QT] at hK
 refine Kq hrun fun v w' hp=>hn _ _ _ hK ?_
 obtain⟨S',φ',m',k',r',c'⟩:=hp
 have e:=Xy ob wr hr
 exact⟨S',φ',hR.put (ob':=wrL ob wr) (by rw[e];exact m') (by rw[e];exact k') (by rw[e];exact r') (by rw[e];exact c'),by simp only[e];exact htr.kept k'⟩
theorem Q7 {cx:Cx}(hT:TabOk P cx.T)(hC:QG E.wl P cx){ops:Array Oper}{o:Oper}{st:ASt}{a:Act}{K:ASt->Prop}{Q:Exit->Act->World->Prop}
  (h:MG cx ops o st K) (hR:RR E tr st a w) {next:Act->World->Prop} (hn :∀st' a' w',K st'->RR E tr st' a' w'->next a' w') :
  if Region.wanted o (yielded ops a.tmps) then o.wp P a w next Q else next (a.put o.dst undef) w:=
 Vo (F:=opK cx o) (fun m hav h=>GO hT hC m hav h) (show stepG ops o (opK cx o) st K from h) hR hn
theorem SZ (ops:Array Oper):(List.range ops.size).map (fun i=>ops[i]?)=ops.toList.map some:=by
 apply List.ext_getElem
 ·simp
 intro i h1 h2
 simp at h1
 simp[h1]
theorem XI (s s':ASt) :∀{l l':List AV},tmW s s' l l'->l.length=l'.length/\∀i (hi:i<l.length) (hi':i<l'.length),AvW s s' l[i] l'[i]
 | [],[],_=>⟨rfl,fun i hi=>by simp at hi⟩
 | a::l,a'::l',h=>by
  have key:AvW s s' a a'/\tmW s s' l l':=by
   cases a'<;>simp only[tmW] at h<;>first | exact⟨.dead a,h⟩|exact h
  obtain⟨h1,h2⟩:=XI s s' key.2
  refine⟨by simp[h1],fun i hi hi'=>?_⟩
  cases i with
  | zero=>exact key.1
  | succ i=>exact h2 i (by simpa using hi) (by simpa using hi')
 | [],_::_,h=>by simp[tmW] at h
 | _::_,[],h=>by simp[tmW] at h
theorem Q1 (s s':ASt) :∀{l l':List AV},MZ s s' l l'->l.length=l'.length/\∀i (hi:i<l.length) (hi':i<l'.length),l'[i].one=true/\AvW s s' l[i] l'[i]
 | [],[],_=>⟨rfl,fun i hi=>by simp at hi⟩
 | a::l,a'::l',h=>by
  simp only[MZ] at h
  obtain⟨h1,h2⟩:=Q1 s s' h.2
  refine⟨by simp[h1],fun i hi hi'=>?_⟩
  cases i with
  | zero=>exact h.1
  | succ i=>exact h2 i (by simpa using hi) (by simpa using hi')
 | [],_::_,h=>by simp[MZ] at h
 | _::_,[],h=>by simp[MZ] at h
theorem Xt (s s':ASt) :∀{l l':List (Option OB)},obW s s' l l'->l.length=l'.length/\∀r o',l'.getD r none=some o'->
   match o' with
   | .box cs'=>∃cs,l.getD r none=some (.box cs)/\MZ s s' cs cs'
   | .row e sz es frz=>(∃f,l.getD r none=some (.row e sz es f)/\fzW es f frz)\/(l.getD r none=none/\es=[]/\0<sz)
   | .map k e es=>l.getD r none=some (.map k e es) \/∃kv r' n,l.getD r none=some (.amap k e es kv r' n)
   | .amap k e es kv r' n=>(∃n',l.getD r none=some (.amap k e es kv r' n')/\n'=n)\/((l.getD r none=some (.map k e es) \/∃kv r' n,l.getD r none=some (.amap k e es kv r' n))/\(∃tk,CQ tk (.val kv) es=some none)/\n=0/\s.ob.getD r' none=none/\∃e' sz f,s'.ob.getD r' none=some (.row e' sz [] f))
   | .gone=>l.getD r none=some .gone
 | [],[],_=>⟨rfl,fun r o' h=>by simp at h⟩
 | o::l,x::l',h=>by
  have tail:obW s s' l l':=by
   cases x with
   | none=>simpa[obW] using h
   | some q=>cases q<;>simp only[obW] at h<;>exact h.2
  obtain⟨h1,h2⟩:=Xt s s' tail
  refine⟨by simp[h1],fun r o' hr=>?_⟩
  cases r with
  | zero=>
   simp at hr
   subst hr
   cases o'<;>simp only[obW] at h
   all_goals simpa using h.1
  | succ r=>simpa using h2 r o' (by simpa using hr)
 | [],_::_,h=>by simp[obW] at h
 | _::_,[],h=>by simp[obW] at h
theorem sw_sw (i j r:Nat):sw i j (sw i j r)=r:=by
 unfold sw
 cases h1:Nat.beq r i with
 | true=>
  have:=X30 h1
  simp only
  cases h2:Nat.beq j i with
  | true=>have:=X30 h2;simp only;omega
  | false=>simp only[Nat.beq_refl];omega
 | false=>
  simp only
  cases h2:Nat.beq r j with
  | true=>
   have:=X30 h2
   simp only[Nat.beq_refl];omega
  | false=>simp only[h1,h2]
theorem cH {i j r r':Nat}(h:sw i j r=sw i j r'):r=r':=by rw[<- sw_sw i j r,h,sw_sw]
theorem dQ {i j np r:Nat}(hi:np<=i)(hj:np<=j)(hr:r<np):sw i j r=r:=by
 unfold sw
 have h1:Nat.beq r i=false:=by
  cases h:Nat.beq r i with
  | true=>have:=X30 h;omega
  | false=>rfl
 have h2:Nat.beq r j=false:=by
  cases h:Nat.beq r j with
  | true=>have:=X30 h;omega
  | false=>rfl
 simp[h1,h2]
theorem Dt (i j:Nat) :∀l:List AV,AV.sw.swL i j l=l.map (AV.sw i j)
 | []=>rfl
 | a::l=>by simp[AV.sw.swL,Dt i j l]
theorem Z7 (i j:Nat)(a:AV):(a.sw i j).one=a.one:=by cases a<;>rfl
theorem FZ.sw_sw (i j:Nat)(f:FZ):(f.sw i j).sw i j=f:=by cases f<;>simp[FZ.sw,Go.AX.sw_sw]
theorem RepA.sw {S:Sc}{w:World}{φ:Nat->Option (Nat×Rp)}{ob:Nat->Option OB}(i j:Nat){a:AV}{v:Value}(h:RepA S w φ ob a v) :
  RepA S w (fun r=>φ (Go.AX.sw i j r)) (fun r=>(ob (Go.AX.sw i j r)).map (OB.sw i j)) (a.sw i j) v:=by
 have row :∀{r e sz:Nat} {es:List D} {frz:FZ},(ob (Go.AX.sw i j (Go.AX.sw i j r))).map (OB.sw i j)=some (.row e sz es frz)->ob r=some (.row e sz es (frz.sw i j)):=by
  intro r e sz es frz hx
  rw[Go.AX.sw_sw] at hx
  cases ho:ob r with
  | none=>rw[ho] at hx;simp at hx
  | some o=>
   rw[ho] at hx
   cases o<;>simp[OB.sw] at hx
   obtain⟨rfl,rfl,rfl,rfl⟩:=hx
   rw[FZ.sw_sw]
 have box :∀{r:Nat} {cs:List AV},(ob (Go.AX.sw i j (Go.AX.sw i j r))).map (OB.sw i j)=some (.box cs)->∃cs',ob r=some (.box cs'):=by
  intro r cs hx
  rw[sw_sw] at hx
  cases ho:ob r with
  | none=>rw[ho] at hx;simp at hx
  | some o=>
   rw[ho] at hx
   cases o<;>simp[OB.sw] at hx
   exact⟨_,rfl⟩
 induction h with
 | d x v h=>exact .d x v h
 | agg cs vs f hs hf hn _ ih=>
  refine .agg _ vs f (by simp[Dt,hs]) (fun k hk=>hf k (by simpa[Dt] using hk)) (fun k hk=>?_) fun k hk=>?_
  ·simp only[Dt,List.getElem_map,Z7];exact hn _ _
  simp only[Dt,List.getElem_map];exact ih _ _
 | tup cs vs f hs hf _ ih=>
  refine .tup _ vs f (by simp[Dt,hs]) (fun k hk=>hf k (by simpa[Dt] using hk)) fun k hk=>?_
  simp only[Dt,List.getElem_map];exact ih _ _
 | fn f cs vs g hs hf _ ih=>
  refine .fn f _ vs g (by simp[Dt,hs]) (fun k hk=>hf k (by simpa[Dt] using hk)) fun k hk=>?_
  simp only[Dt,List.getElem_map];exact ih _ _
 | ref r off b c h hb=>exact .ref _ off b c (by simpa[sw_sw] using h) fun e sz es frz hx=>hb e sz es _ (row hx)
 | eref cs b o f hS hn h=>exact .eref cs b o f hS hn h
 | own r n v k c a0 hv hk h hb=>
  refine .own _ n v k c a0 hv hk (fun e sz es frz hx=>?_) fun cs hx=>?_
  ·obtain⟨g1,g2⟩:=h e sz es _ (row hx)
   refine⟨g1,fun hn=>?_⟩
   have:=g2 hn
   unfold Ib at *
   simpa[sw_sw] using this
  obtain⟨cs',hx'⟩:=box hx
  simpa[sw_sw] using hb cs' hx'
 | rref r n a k v h hb hp=>
  refine .rref _ n a k v (fun e sz es frz hx=>?_) (fun cs hx=>?_) hp
  ·simpa[sw_sw] using h e sz es _ (row hx)
  obtain⟨cs',hx'⟩:=box hx
  simpa[sw_sw] using hb cs' hx'
 | mp r b c h hb hc=>
  refine .mp _ b c (by simpa[sw_sw] using h) (fun e sz es frz hx=>hb e sz es _ (row hx)) fun cs hx=>?_
  obtain⟨cs',hx'⟩:=box hx
  exact hc cs' hx'
 | it f r b c B h hb hc hS hm=>
  refine .it f _ b c B (by simpa[sw_sw] using h) (fun e sz es frz hx=>hb e sz es _ (row hx)) (fun cs hx=>?_) hS hm
  obtain⟨cs',hx'⟩:=box hx
  exact hc cs' hx'
 | osl r a n m v k c a0 hv hk h=>exact .osl _ a n m v k c a0 hv hk fun e sz es frz hx=>by simpa[sw_sw,Ib] using h e sz es _ (row hx)
 | gl g=>exact .gl g
 | gv g v hS hv=>exact .gv g v hS hv
 | dead v=>exact .dead v
theorem UV (i j:Nat) :∀(a:AV) (r:Nat),r∈(a.sw i j).refs->Go.AX.sw i j r∈a.refs
 | .d x,r,h=>by simp[AV.sw,AV.refs] at h
 | .eref _,r,h=>by simp[AV.sw,AV.refs] at h
 | .dead,r,h=>by simp[AV.sw,AV.refs] at h
 | .gl _,r,h=>by simp[AV.sw,AV.refs] at h
 | .gv _,r,h=>by simp[AV.sw,AV.refs] at h
 | .ref q _,r,h=>by simp only[AV.sw,AV.refs,X14] at h ⊢;rw[h,sw_sw]
 | .own q _,r,h=>by simp only[AV.sw,AV.refs,X14] at h ⊢;rw[h,sw_sw]
 | .mp q,r,h=>by simp only[AV.sw,AV.refs,X14] at h ⊢;rw[h,sw_sw]
 | .it _ q,r,h=>by simp only[AV.sw,AV.refs,X14] at h ⊢;rw[h,sw_sw]
 | .rref q _ _ _,r,h=>by simp only[AV.sw,AV.refs,X14] at h ⊢;rw[h,sw_sw]
 | .osl q _ _ _,r,h=>by simp only[AV.sw,AV.refs,X14] at h ⊢;rw[h,sw_sw]
 | .agg cs,r,h=>sw_refsL i j cs r (by simpa only[AV.sw,AV.refs] using h)
 | .fn _ cs,r,h=>sw_refsL i j cs r (by simpa only[AV.sw,AV.refs] using h)
 | .tup cs,r,h=>sw_refsL i j cs r (by simpa only[AV.sw,AV.refs] using h) where
 sw_refsL (i j:Nat) :∀(cs:List AV) (r:Nat),r∈AV.refs.refsL (AV.sw.swL i j cs)->Go.AX.sw i j r∈AV.refs.refsL cs
  | [],r,h=>by simp[AV.sw.swL,AV.refs.refsL] at h
  | a::l,r,h=>by
   simp only[AV.sw.swL,AV.refs.refsL,X23] at h ⊢
   exact h.imp (UV i j a r) (sw_refsL i j l r)
theorem ObjOK.sw {S:Sc}{w:World}{φ:Nat->Option (Nat×Rp)}{ob:Nat->Option OB}(i j:Nat){r:Nat}{o:OB}(h:ObjOK S w φ ob (Go.AX.sw i j r) o) :
  ObjOK S w (fun r=>φ (Go.AX.sw i j r)) (fun r=>(ob (Go.AX.sw i j r)).map (OB.sw i j)) r (o.sw i j):=by
 cases o with
 | box cs=>
  obtain⟨b,c,vs,e,f,h1,h2,h3,h4,h5,h6⟩:=h
  refine⟨b,c,vs,e,f,h1,h2,by simp[Dt,h3],h4,fun k hk=>h5 k (by simpa[Dt] using hk),fun k hk=>?_⟩
  have hk':k<cs.length:=by simpa[Dt] using hk
  simp only[Dt,List.getElem_map,Z7]
  exact⟨(h6 k hk').1,(h6 k hk').2.sw i j⟩
 | row e sz es frz=>
  obtain⟨h0,h1,h2,h3⟩:=h
  refine⟨h0,h1,h2,h3.imp id ?_⟩
  rintro⟨b,cap,vs,f,f1,f2,f3,f4,f5,f6,f7,f8⟩
  refine⟨b,cap,vs,f,f1,f2,f3,f4,f5,f6,f7,fun o ho=>f8.1 o (by cases frz<;>exact ho),fun i' j' q n hq hi hj=>?_⟩
  cases frz with
  | no=>simp[FZ.sw] at hq
  | yes=>simp[FZ.sw] at hq
  | lk i2 j2 q2 n2=>
   simp only[FZ.sw,FZ.lk.injEq] at hq
   obtain⟨rfl,rfl,rfl,rfl⟩:=hq
   exact (f8.2 _ _ _ _ rfl hi hj).sw i j
 | map k e es=>exact h
 | amap k e es kv r' n=>
  obtain⟨b,c,arr,clock,h1,h2,h3,h4,h5,h6⟩:=h
  exact⟨b,c,arr,clock,h1,h2,h3,h4,h5,h6.imp fun v hv=>hv.sw i j⟩
 | gone=>trivial
theorem RG (i j:Nat) :∀l:List (Option OB),(NS i j l).length=l.length
 | []=>rfl
 | none::l=>by simp[NS,RG i j l]
 | some o::l=>by simp[NS,RG i j l]
theorem JD (i j:Nat) :∀(l:List (Option OB)) (r:Nat),(NS i j l).getD r none=(l.getD r none).map (OB.sw i j)
 | [],r=>by simp[NS]
 | none::l,0=>by simp[NS]
 | some o::l,0=>by simp[NS]
 | none::l,r+1=>by simpa[NS] using JD i j l r
 | some o::l,r+1=>by simpa[NS] using JD i j l r
theorem Y5 {i j:Nat}{s:ASt}(hi:i<s.ob.length)(hj:j<s.ob.length)(r:Nat):obf (Jm i j s).ob r=(obf s.ob (sw i j r)).map (OB.sw i j):=by
 have hl:=RG i j s.ob
 simp only[obf,Jm]
 rw[List.getD_eq_getElem?_getD,List.getElem?_set]
 unfold sw
 by_cases h2:j=r
 ·subst h2
  rw[if_pos rfl,if_pos (by simpa[hl] using hj)]
  simp only[Option.getD_some]
  cases h1:Nat.beq j i with
  | true=>
   have:=X30 h1
   subst this
   rw[JD]
  | false=>simp only[Nat.beq_refl,JD]
 rw[if_neg h2,List.getElem?_set]
 have hb2:Nat.beq r j=false:=by
  cases h:Nat.beq r j with
  | true=>exact absurd (X30 h).symm h2
  | false=>rfl
 by_cases h1:i=r
 ·subst h1
  rw[if_pos rfl,if_pos (by simpa[hl] using hi)]
  simp only[Option.getD_some,Nat.beq_refl,JD]
 have hb1:Nat.beq r i=false:=by
  cases h:Nat.beq r i with
  | true=>exact absurd (X30 h).symm h1
  | false=>rfl
 rw[if_neg h1]
 simp only[hb1,hb2]
 rw[<- List.getD_eq_getElem?_getD,JD]
theorem WF {i j:Nat}{s:ASt}(hi:tr.np<=i)(hj:tr.np<=j)(hli:i<s.ob.length)(hlj:j<s.ob.length){a:Act}(hR:RR E tr s a w):RR E tr (Jm i j s) a w:=by
 obtain⟨S,φ,hR,htr⟩:=hR
 have hob:obf (Jm i j s).ob=fun r=>(obf s.ob (sw i j r)).map (OB.sw i j):=funext fun r=>Y5 hli hlj r
 have m:=hR.mem
 have hne :∀{r:Nat},(obf s.ob (sw i j r)).map (OB.sw i j)≠none->obf s.ob (sw i j r)≠none:=fun h he=>h (by rw[he];rfl)
 refine⟨S,fun r=>φ (sw i j r),⟨by simp[Jm,Dt,hR.sz],fun k hk=>?_,hR.df,?_⟩,fun r hr h0=>?_⟩
 ·have hk':k<s.tm.length:=by simpa[Jm,Dt] using hk
  have e:(Jm i j s).tm[k]=(s.tm[k]).sw i j:=by simp[Jm,Dt]
  rw[e,hob]
  obtain⟨h1,h2⟩:=hR.tm k hk'
  refine⟨h1.sw i j,fun r hr=>?_⟩
  have:=h2 _ (UV i j _ r hr)
  simp only
  cases ho:obf s.ob (sw i j r) with
  | none=>exact absurd ho this
  | some o=>simp
 ·rw[hob]
  refine⟨fun r o ho=>?_,fun r r' b c c' h1 h2 g1 g2=>?_,fun r o ho r' hm=>?_,m.sS,m.kS,m.bS,m.nS,m.fr,m.sz,fun r b c h g=>m.ow _ b c (hne h) g,m.os⟩
  ·cases hq:obf s.ob (sw i j r) with
   | none=>simp only[hq] at ho;simp at ho
   | some o0=>
    simp only[hq,Option.map_some,X24] at ho
    subst ho
    exact (m.obj _ _ hq).sw i j
  ·exact cH (m.inj _ _ b c c' (hne h1) (hne h2) g1 g2)
  cases hq:obf s.ob (sw i j r) with
  | none=>simp only[hq] at ho;simp at ho
  | some o0=>
   simp only[hq,Option.map_some,X24] at ho
   subst ho
   have:sw i j r'∈o0.refs:=by
    cases o0 with
    | box cs=>exact UV.sw_refsL i j cs r' (by simpa[OB.sw,OB.refs] using hm)
    | row e2 sz2 es2 f2=>
     cases f2 with
     | no=>simp[OB.sw,OB.refs,FZ.sw] at hm
     | yes=>simp[OB.sw,OB.refs,FZ.sw] at hm
     | lk=>
      simp only[OB.sw,OB.refs,FZ.sw,FZ.refs_lk,X14] at hm
      simp only[OB.refs,FZ.refs_lk,X14]
      rw[hm,Go.AX.sw_sw]
    | map=>simp[OB.sw,OB.refs] at hm
    | amap k e es kv r2 n=>
     simp only[OB.sw,OB.refs,X14] at hm
     simp only[OB.refs,X14]
     rw[hm,sw_sw]
    | gone=>simp[OB.sw,OB.refs] at hm
   have:=m.men _ _ hq _ this
   cases ho':obf s.ob (sw i j r') with
   | none=>exact absurd ho' this
   | some o=>simp
 obtain⟨h1,h2⟩:=htr r hr h0
 rw[hob]
 have e:=dQ hi hj hr
 refine⟨by simp only[e];cases ho:obf s.ob r with
  | none=>exact absurd ho h1
  | some o=>simp,?_⟩
 have hh:hdr ((obf s.ob r).map (OB.sw i j))=hdr (obf s.ob r):=by
  cases obf s.ob r with
  | none=>rfl
  | some o=>cases o<;>rfl
 have hbx :∀cs,(obf s.ob r).map (OB.sw i j)=some (.box cs)->∃cs',obf s.ob r=some (.box cs'):=by
  intro cs hx
  cases ho:obf s.ob r with
  | none=>rw[ho] at hx;simp at hx
  | some o=>
   rw[ho] at hx
   cases o<;>simp[OB.sw] at hx
   exact⟨_,rfl⟩
 rcases h2 with ⟨a1,a2,a3⟩|⟨e',sz,es,frz,es',frz',a1,a2,a3,a4⟩|⟨a1,a2,a3⟩
 ·exact .inl ⟨by simp only[e];exact a1,by simp only[e];exact hh.trans a2,fun ⟨cs,hx⟩=>a3 (hbx cs (by simpa only[e] using hx))⟩
 ·exact .inr (.inl ⟨e',sz,es,frz,es',frz'.sw i j,a1,by simp only[e,a2];rfl,a3,fun hq=>by simp only[e];exact a4 hq⟩)
 refine .inr (.inr ⟨a1,by simp only[e];exact hh.trans a2,fun cs hx=>?_⟩)
 obtain⟨cs',hx'⟩:=hbx cs (by simpa only[e] using hx)
 exact a3 cs' hx'
theorem VQ {s s':ASt}(h:Weak0 tr.np s s'){a:Act}(hR:RR E tr s a w):RR E tr s' a w:=by
 obtain⟨S,φ,hR,htr⟩:=hR
 obtain⟨hpar,htm,hob,hcl⟩:=h
 obtain⟨t1,t2⟩:=XI s s' htm
 obtain⟨o1,o2⟩:=Xt s s' hob
 have m:=hR.mem
 let S':Sc:=fun b o=>S b o\/(∃r e sz es f c,obf s.ob r=some (.row e sz es f)/\φ r=some (b,c)/\o<c.2+es.length*sz/\(obf s'.ob r=none\/obf s'.ob r=some (.row e sz es .yes))) \/
  ∃r cs c,obf s.ob r=some (.box cs)/\φ r=some (b,c)/\o<cs.length/\obf s'.ob r=none
 let φ':Nat->Option (Nat×Rp):=fun r=>match obf s.ob r with
  | none=>none
  | some _=>φ r
 have hφ :∀{r},obf s.ob r≠none->φ' r=φ r:=by
  intro r hr
  simp only[φ']
  cases hq:obf s.ob r with
  | none=>exact absurd hq hr
  | some q=>rfl
 have hS:Nk S w S' w:=fun b o h=>⟨.inl h,rfl⟩
 have hS8 :∀{r b c},obf s.ob r≠none->obf s'.ob r≠none->φ r=some (b,c)->∀o,S' b o->S b o \/∃e sz es f,obf s.ob r=some (.row e sz es f)/\o<c.2+es.length*sz/\(obf s'.ob r=none\/obf s'.ob r=some (.row e sz es .yes)):=by
  intro r b c h1 h1' h2 o ho
  rcases ho with ho | ⟨r',e,sz,es,f,c',g1,g2,g3,g4⟩|⟨r',cs,c',g1,g2,g3,g4⟩
  ·exact .inl ho
  ·have:=m.inj r' r b c' c (by rw[g1];simp) h1 g2 h2
   subst this
   rw[g2] at h2
   simp only[X24,X26,true_and] at h2
   subst h2
   exact .inr ⟨e,sz,es,f,g1,g3,g4⟩
  have:=m.inj r' r b c' c (by rw[g1];simp) h1 g2 h2
  subst this
  exact absurd g4 h1'
 have hclA :∀r∈AV.refs.refsL s'.tm,obf s'.ob r≠none:=by
  intro r hr
  simp only[Nb,X27,List.all_eq_true] at hcl
  have:=hcl.1 r hr
  intro h
  simp only[obf] at h
  rw[h] at this
  simp at this
 have hclO :∀r o,obf s'.ob r=some o->∀r'∈o.refs,obf s'.ob r'≠none:=by
  intro r o ho r' hr'
  simp only[Nb,X27,List.all_eq_true] at hcl
  have hmem:some o∈s'.ob:=by
   have hlt:=Bo s'.ob r o ho
   have:s'.ob[r]=some o:=by
    have h2:s'.ob.getD r none=s'.ob[r]:=by simp[hlt]
    rw[<- h2];exact ho
   rw[<- this]
   exact List.getElem_mem hlt
  have:=hcl.2 (some o) hmem
  simp only[List.all_eq_true] at this
  have:=this r' hr'
  intro h
  simp only[obf] at h
  rw[h] at this
  simp at this
 have href :∀r,obf s.ob r≠none->obf s'.ob r≠none->RefOK φ (obf s.ob) φ' (obf s'.ob) r:=by
  intro r h1 h2
  refine .inl ⟨hφ h1,?_,?_⟩
  ·cases hq:obf s'.ob r with
   | none=>exact absurd hq h2
   | some q=>
    have:=o2 r q hq
    cases q with
    | box cs'=>
     obtain⟨cs,g1,_⟩:=this
     have g1':obf s.ob r=some (.box cs):=g1
     rw[g1'];rfl
    | map k e es=>
     rcases this with g1 | ⟨kv,r2,n2,g1⟩
     ·have g1':obf s.ob r=some (.map k e es):=g1
      rw[g1']
     have g1':obf s.ob r=some (.amap k e es kv r2 n2):=g1
     rw[g1'];rfl
    | amap k e es kv r2 n2=>
     rcases this with ⟨n3,g1,_⟩|⟨g1 | ⟨_,_,_,g1⟩,_⟩
     ·have g1':obf s.ob r=some (.amap k e es kv r2 n3):=g1
      rw[g1'];rfl
     ·have g1':obf s.ob r=some (.map k e es):=g1
      rw[g1'];rfl
     have g1':obf s.ob r=some (.amap k e es _ _ _):=g1
     rw[g1'];rfl
    | gone=>
     have g1':obf s.ob r=some .gone:=this
     rw[g1']
    | row e sz es frz=>
     rcases this with ⟨f,g1,_⟩|⟨g1,_⟩
     ·have g1':obf s.ob r=some (.row e sz es f):=g1
      rw[g1'];rfl
     exact absurd g1 h1
  rintro⟨cs',hc⟩
  obtain⟨cs,g1,_⟩:=o2 r _ hc
  exact⟨cs,g1⟩
 have fr :∀{r e sz:Nat} {f:FZ},s.ob.getD r none=none->s'.ob.getD r none=some (.row e sz [] f)->RepA S' w φ' (obf s'.ob) (.own r 0) (.slice none 0 0):=by
  intro r e sz f h h'
  have h'':obf s'.ob r=some (.row e sz [] f):=h'
  refine .own r 0 _ 0 0 none rfl rfl (fun e' sz' es' f' hx=>?_) fun cs hx=>?_
  ·rw[h''] at hx
   simp only[X24,OB.row.injEq] at hx
   obtain⟨rfl,rfl,rfl,rfl⟩:=hx
   refine⟨Nat.le_refl _,fun _=>.inl ⟨?_,rfl,_,rfl⟩⟩
   have h0:obf s.ob r=none:=h
   simp only[φ',h0]
  rw[h''] at hx
  simp at hx
 have rep :∀{x x':AV} {v:Value},AvW s s' x x'->RepA S w φ (obf s.ob) x v->Closed (obf s.ob) x->(∀r∈x'.refs,obf s'.ob r≠none)->RepA S' w φ' (obf s'.ob) x' v:=by
  intro x x' v hw
  induction hw generalizing v with
  | lstB r cs ys sz h h' hsz hl hp hcw hn ih=>
   intro hv hc hc'
   cases hv with | own _ _ _ k c a0 hv hk h1 hb=>
   have hq:obf s.ob r=some (.box cs):=h
   obtain⟨_,b,c',f1,rfl⟩:=hb cs hq
   obtain⟨b',c2,vs,e,f,q1,q2,q3,q4,q5,q6⟩:=m.obj r _ hq
   rw[q1] at f1
   simp only[X24,X26] at f1
   obtain⟨rfl,rfl⟩:=f1
   subst hsz
   refine .d _ _ (.lst cs.length [.agg ys] b' 0 1 (fun _ j=>f j) (by simp[maxLen]) (Nat.le_refl _) (fun i hi=>?_) (fun i j hi hj=>⟨.inr (.inr ⟨r,cs,c2,hq,q1,?_,h'⟩),?_⟩) (fun i hi j hj=>?_) fun i hi j hj=>?_)
   ·have:i=0:=by simpa using hi
    subst this
    simpa[D.cells] using hl
   ·have:i=0:=by simpa using hi
    subst this
    omega
   ·have:i=0:=by simpa using hi
    subst this
    rw[Bd q2]
    simpa using q5 j hj
   ·have:i=0:=by simpa using hi
    subst this
    exact hn j (by simpa[D.cells] using hj)
   have:i=0:=by simpa using hi
   subst this
   have hj':j<ys.length:=by simpa[D.cells] using hj
   have:=ih j (by omega) hj' (q6 j (by omega)).2 (fun r' hr'=>m.men r _ hq r' (by simpa[OB.refs] using AV.refs_mem cs j (by omega) r' hr')) (fun r' hr'=>by simp[AV.refs] at hr')
   cases this with | d _ _ this=>exact this
  | refl=>intro hv hc hc';exact hv.mono hS fun r hr=>href r (hc r hr) (hc' r hr)
  | dead=>intro hv hc hc';exact .dead _
  | ownL r n n' hn=>intro hv hc hc';subst hn;exact hv.mono hS fun r hr=>href r (hc r hr) (hc' r hr)
  | osl r a n m m' hm=>intro hv hc hc';subst hm;exact hv.mono hS fun r hr=>href r (hc r hr) (hc' r hr)
  | norm x=>intro hv hc hc';cases hv with | d _ _ hv=>exact .d _ _ (hv.norm.mono hS)
  | lst r n e sz es f h hn h'=>
   intro hv hc hc'
   cases hv with | own _ _ _ k c a0 hv hk h1 hb=>
   have hq:obf s.ob r=some (.row e sz es f):=h
   obtain⟨g0,g1,g2,g3⟩:=m.obj r _ hq
   rcases (h1 e sz es f hq).2 hn with ⟨a1,a2,_,rfl⟩|⟨b,cap,a1,rfl⟩
   ·have:es=[]:=List.eq_nil_of_length_eq_zero (by omega)
    subst this
    exact .d _ _ (.lst0 sz _ _)
   rcases g3 with ⟨b1,_⟩|⟨b',cap',vs,g,f1,f2,f3,f4,f5,f6,f7,f8⟩
   ·rw[b1] at a1;simp at a1
   rw[f1] at a1
   simp only[X24,X26] at a1
   obtain⟨rfl,rfl⟩:=a1
   rw[hn]
   refine .d _ _ (.lst sz es b' cap'.2 cap'.1 g (Nat.le_trans f3 f4) f3 g1 (fun i j hi hj=>⟨.inr (.inl ⟨r,e,sz,es,f,cap',hq,f1,?_,h'⟩),?_⟩) g2 fun i hi j hj=>(f7 i hi j hj).mono hS)
   ·have:(i+1)*sz<=es.length*sz:=X31 _ hi
    rw[X32] at this
    omega
   rw[Bd f2,Nat.add_assoc]
   exact f6 i j hi hj
  | oslD r a n m0 e sz es zs f h hm hz h'=>
   intro hv hc hc'
   cases hv with | osl _ _ _ _ _ k c a0 hv hk h1=>
   have hq:obf s.ob r=some (.row e sz es f):=h
   obtain⟨g0,g1,g2,g3⟩:=m.obj r _ hq
   obtain⟨a1,a2,_⟩:=(h1 e sz es f hq).2 hm
   rcases a2 with a2 | ⟨b,cap,c',a2,a3,a4⟩
   ·have:zs=[]:=by rw[<- hz,a2];simp
    subst this
    rw[hv,hk,a2]
    exact .d _ _ (.lst0 sz _ _)
   rcases g3 with ⟨b1,_⟩|⟨b',cap',vs,g,f1,f2,f3,f4,f5,f6,f7,f8⟩
   ·rw[b1] at a2;simp at a2
   rw[f1] at a2
   simp only[X24,X26] at a2
   obtain⟨rfl,rfl⟩:=a2
   have hlen:zs.length=n:=by rw[<- hz];simp;omega
   have hget :∀i (hi:i<zs.length),zs[i]=es[a+i]'(by omega):=by
    intro i hi;subst hz;simp
   rw[a3]
   have key:=RepD.lst (S:=S') (w:=w) sz zs b' (cap'.2+a*sz) c' (fun i j=>g (a+i) j) (by omega) (by omega) (fun i hi=>by rw[hget i hi];exact g1 _ _) (fun i j hi hj=>⟨.inr (.inl ⟨r,e,sz,es,f,cap',hq,f1,?_,h'⟩),?_⟩) (fun i hi j hj=>?_) fun i hi j hj=>?_
   ·rw[hlen] at key
    exact .d _ _ key
   ·have:(a+i+1)*sz<=es.length*sz:=X31 _ (by omega)
    rw[X32,X32] at this
    omega
   ·rw[Bd f2]
    have e2:cap'.2+a*sz+i*sz+j=cap'.2+((a+i)*sz+j):=by rw[X32];omega
    rw[e2]
    exact f6 (a+i) j (by omega) hj
   ·have:=hget i hi
    simp only[this] at hj ⊢
    exact g2 (a+i) (by omega) j hj
   have:=hget i hi
   simp only[this] at hj ⊢
   exact (f7 (a+i) (by omega) j hj).mono hS
  | fresh r e sz h h'=>
   intro hv hc hc'
   cases hv with | d _ _ hv=>
   cases hv with | nil=>exact fr h h'
  | tup cs cs' hl hcw ih=>
   intro hv hc hc'
   cases hv with | tup _ vs f hs hf hr=>
   exact .tup cs' vs f (by omega) (fun i hi=>hf i (by omega)) fun i hi=>ih i (by omega) hi (hr i (by omega)) (fun r hr'=>hc r (by simpa[AV.refs] using AV.refs_mem cs i (by omega) r hr')) fun r hr'=>hc' r (by simpa[AV.refs] using AV.refs_mem cs' i hi r hr')
  | agg cs cs' hl hcw hn ih=>
   intro hv hc hc'
   cases hv with | agg _ vs f hs hf _ hr=>
   exact .agg cs' vs f (by omega) (fun i hi=>hf i (by omega)) hn fun i hi=>ih i (by omega) hi (hr i (by omega)) (fun r hr'=>hc r (by simpa[AV.refs] using AV.refs_mem cs i (by omega) r hr')) fun r hr'=>hc' r (by simpa[AV.refs] using AV.refs_mem cs' i hi r hr')
  | aggD cs ys hl hcw hn ih=>
   intro hv hc hc'
   cases hv with | agg _ vs f hs hf _ hr=>
   refine .d _ _ (.agg ys vs f (by omega) (fun i hi=>hf i (by omega)) hn fun i hi=>?_)
   have:=ih i (by omega) hi (hr i (by omega)) (fun r hr'=>hc r (by simpa[AV.refs] using AV.refs_mem cs i (by omega) r hr')) (fun r hr'=>by simp[AV.refs] at hr')
   cases this with | d _ _ this=>exact this
  | dagg ds cs' hl hcw hn ih=>
   intro hv hc hc'
   cases hv with | d _ _ hv=>
   cases hv with | agg _ vs f hs hf _ hr=>
   exact .agg cs' vs f (by omega) (fun i hi=>hf i (by omega)) hn fun i hi=>ih i (by omega) hi (.d _ _ (hr i (by omega))) (fun r hr'=>by simp[AV.refs] at hr') fun r hr'=>hc' r (by simpa[AV.refs] using AV.refs_mem cs' i hi r hr')
 refine⟨S',φ',⟨by rw[hR.sz,t1],fun i hi=>?_,hR.df,⟨?_,?_,hclO,fun b o h=>.inl (m.sS b o h),m.kS,?_,?_,m.fr,m.sz,?_,m.os⟩⟩,fun r hr h0=>?_⟩
 ·have hi':i<s.tm.length:=by omega
  refine⟨rep (t2 i hi' hi) (hR.tm i hi').1 (hR.tm i hi').2 fun r hr=>hclA r (AV.refs_mem s'.tm i hi r hr),fun r hr=>hclA r (AV.refs_mem s'.tm i hi r hr)⟩
 ·intro r o' ho'
  have hw:=o2 r o' ho'
  cases o' with
  | gone=>trivial
  | box cs'=>
   obtain⟨cs,g1,g2⟩:=hw
   have g1':obf s.ob r=some (.box cs):=g1
   obtain⟨c1,c2⟩:=Q1 s s' g2
   obtain⟨b,c,vs,e,f,h1,h2,h3,h4,h5,h6⟩:=m.obj r _ g1'
   refine⟨b,c,vs,e,f,(hφ (by rw[g1'];simp)).trans h1,h2,by omega,fun o ho=>?_,fun j hj=>h5 j (by omega),fun j hj=>⟨(c2 j (by omega) hj).1,?_⟩⟩
   ·rcases hS8 (r:=r) (by rw[g1'];simp) (by rw[ho'];simp) h1 o ho with h | ⟨e',sz',es',f',q,_⟩
    ·exact h4 o h
    rw[g1'] at q;simp at q
   exact rep (c2 j (by omega) hj).2 (h6 j (by omega)).2 (fun r' hr'=>m.men r _ g1' r' (by simpa[OB.refs] using AV.refs_mem cs j (by omega) r' hr')) fun r' hr'=>hclO r _ ho' r' (by simpa[OB.refs] using AV.refs_mem cs' j hj r' hr')
  | map k e es=>
   obtain⟨o0,g1',hd0,b,c,arr,clock,h1,h2,h3,h4,h5⟩ :∃o0,obf s.ob r=some o0/\hdr (some o0)=none/\∃b c arr clock,φ r=some (b,c)/\w.heap[b]?=some (.map arr clock)/\(arr.size=es.length/\BornOK arr clock)/\(∀o,¬ S b o)/\
     ∀i (hi:i<es.length),∃x:MapEntry,arr[i]?=some x/\(∃u,es[i].1=.val u/\x.key=u/\u.oneCell'=true)/\RepD S w es[i].2 x.val:=by
    rcases hw with g1 | ⟨kv,r2,n2,g1⟩
    ·exact⟨_,g1,rfl,m.obj r _ g1⟩
    obtain⟨b,c,arr,clock,h1,h2,h3,h4,h5,_⟩:=m.obj r _ g1
    exact⟨_,g1,rfl,b,c,arr,clock,h1,h2,h3,h4,h5⟩
   refine⟨b,c,arr,clock,(hφ (by rw[g1'];simp)).trans h1,h2,h3,fun o ho=>?_,fun i hi=>?_⟩
   ·rcases hS8 (r:=r) (by rw[g1'];simp) (by rw[ho'];simp) h1 o ho with h | ⟨e',sz',es',f',q,_⟩
    ·exact h4 o h
    rw[g1'] at q
    obtain rfl:=X25 q
    simp[hdr] at hd0
   obtain⟨x,q1,q2,q3⟩:=h5 i hi
   exact⟨x,q1,q2,q3.mono hS⟩
  | amap k e es kv r2 n2=>
   obtain⟨o0,g1',hd0,b,c,arr,clock,h1,h2,h3,h4,h5,h6⟩ :∃o0,obf s.ob r=some o0/\hdr (some o0)=none/\∃b c arr clock,φ r=some (b,c)/\w.heap[b]?=some (.map arr clock)/\(arr.size=es.length/\BornOK arr clock)/\(∀o,¬ S b o)/\
     (∀i (hi:i<es.length),∃x:MapEntry,arr[i]?=some x/\(∃u,es[i].1=.val u/\x.key=u/\u.oneCell'=true)/\RepD S w es[i].2 x.val)/\AliasP kv (RepA S' w φ' (obf s'.ob) (.own r2 n2)) arr.toList:=by
    rcases hw with ⟨n3,g1,rfl⟩|⟨g1 | ⟨kv0,r0,n0,g1⟩,⟨tk,g2⟩,rfl,g3,e',sz,f,g4⟩
    ·obtain⟨b,c,arr,clock,h1,h2,h3,h4,h5,h6⟩:=m.obj r _ g1
     refine⟨_,g1,rfl,b,c,arr,clock,h1,h2,h3,h4,h5,h6.imp fun v hv=>hv.mono hS fun q hq=>?_⟩
     simp only[AV.refs,X14] at hq
     subst hq
     exact href q (m.men r _ g1 q (by simp[OB.refs])) (hclO r _ ho' q (by simp[OB.refs]))
    ·obtain⟨b,c,arr,clock,h1,h2,h3,h4,h5⟩:=m.obj r _ g1
     exact⟨_,g1,rfl,b,c,arr,clock,h1,h2,h3,h4,h5,Jz (Ja _ _) es arr.toList ⟨by simpa using h3.1,fun i hi=>by simpa using h5 i hi⟩ g2 (fr g3 g4)⟩
    obtain⟨b,c,arr,clock,h1,h2,h3,h4,h5,_⟩:=m.obj r _ g1
    exact⟨_,g1,rfl,b,c,arr,clock,h1,h2,h3,h4,h5,Jz (Ja _ _) es arr.toList ⟨by simpa using h3.1,fun i hi=>by simpa using h5 i hi⟩ g2 (fr g3 g4)⟩
   refine⟨b,c,arr,clock,(hφ (by rw[g1'];simp)).trans h1,h2,h3,fun o ho=>?_,fun i hi=>?_,h6⟩
   ·rcases hS8 (r:=r) (by rw[g1'];simp) (by rw[ho'];simp) h1 o ho with h | ⟨e',sz',es',f',q,_⟩
    ·exact h4 o h
    rw[g1'] at q
    obtain rfl:=X25 q
    simp[hdr] at hd0
   obtain⟨x,q1,q2,q3⟩:=h5 i hi
   exact⟨x,q1,q2,q3.mono hS⟩
  | row e sz es frz=>
   rcases hw with ⟨f,g1,g2⟩|⟨g1,rfl,g2⟩
   ·have g1':obf s.ob r=some (.row e sz es f):=g1
    obtain⟨h0,h1,h2,h3⟩:=m.obj r _ g1'
    refine⟨h0,h1,h2,h3.imp (fun q=>⟨(hφ (by rw[g1'];simp)).trans q.1,q.2⟩) ?_⟩
    rintro⟨b,cap,vs,g,f1,f2,f3,f4,f5,f6,f7,f8⟩
    refine⟨b,cap,vs,g,(hφ (by rw[g1'];simp)).trans f1,f2,f3,f4,f5,f6,fun i hi j hj=>(f7 i hi j hj).mono hS,fun o ho hs=>?_,fun i j q n hq hi hj=>?_⟩
    rotate_left
    ·have h5:=g2.2
     rw[hq] at h5
     rcases h5 with h5 | ⟨i',n',h5,rfl,rfl⟩
     ·omega
     refine (f8.2 i' j q n' h5 hi hj).mono hS fun r' hr'=>?_
     simp only[AV.refs,X14] at hr'
     subst hr'
     exact href r' (m.men r _ g1' r' (by simp[OB.refs,h5])) (hclO r _ ho' r' (by simp[OB.refs,hq]))
    rcases hS8 (r:=r) (by rw[g1'];simp) (by rw[ho'];simp) f1 o hs with h | ⟨e',sz',es',f',q,q2,q3⟩
    ·refine f8.1 o ?_ h
     cases f with
     | no=>simp
     | lk=>simp
     | yes=>rw[g2.1 rfl] at ho;exact ho
    rw[g1'] at q
    simp only[X24,OB.row.injEq] at q
    obtain⟨rfl,rfl,rfl,rfl⟩:=q
    rcases q3 with q3 | q3
    ·rw[ho'] at q3;simp at q3
    rw[ho'] at q3
    simp only[X24,OB.row.injEq] at q3
    rw[q3.2.2.2] at ho
    simp only[FZ.frozen_yes,if_true] at ho
    omega
   refine⟨g2,fun i hi=>by simp at hi,fun i hi=>by simp at hi,.inl ⟨?_,rfl⟩⟩
   have g1':obf s.ob r=none:=g1
   simp only[φ',g1']
 ·intro r1 r2 b c c' h1 h2 g1 g2
  have q :∀{r:Nat} {x:Nat×Rp},φ' r=some x->obf s.ob r≠none/\φ r=some x:=by
   intro r x h
   simp only[φ'] at h
   cases hq:obf s.ob r with
   | none=>simp[hq] at h
   | some q=>simp only[hq] at h;exact⟨by simp,h⟩
  obtain⟨a1,a2⟩:=q g1
  obtain⟨b1,b2⟩:=q g2
  exact m.inj r1 r2 b c c' a1 b1 a2 b2
 ·intro b o h
  rcases h with h | ⟨r,e,sz,es,f,c,g1,g2,_⟩|⟨r,cs,c,g1,g2,_⟩
  ·exact m.bS b o h
  ·exact (m.ow r b c (by rw[g1];simp) g2).1
  exact (m.ow r b c (by rw[g1];simp) g2).1
 ·intro b o h h1 h2
  rcases h with h | ⟨r,e,sz,es,f,c,g1,g2,_⟩|⟨r,cs,c,g1,g2,_⟩
  ·exact m.nS b o h h1 h2
  ·rcases (m.ow r b c (by rw[g1];simp) g2).2 with g | g
   ·omega
   exact absurd g h2
  rcases (m.ow r b c (by rw[g1];simp) g2).2 with g | g
  ·omega
  exact absurd g h2
 ·intro r b c h g
  simp only[φ'] at g
  cases hq:obf s.ob r with
  | none=>simp[hq] at g
  | some q=>
   simp only[hq] at g
   exact m.ow r b c (by rw[hq];simp) g
 have h1:obf s'.ob r≠none:=by
  simp only[List.all_eq_true,List.mem_range] at hpar
  have:=hpar r hr
  intro h
  simp only[obf] at h
  rw[h] at this
  have hq:=(htr r hr h0).1
  simp only[obf] at hq
  cases hz:s.ob.getD r none with
  | none=>exact hq hz
  | some z=>
   rw[hz] at this
   simp at this
 exact⟨h1,(htr r hr h0).2.trans (href r (htr r hr h0).1 h1)⟩
theorem MN {np:Nat}{s s':ASt}(h:Weak np s s')(hnp:np=tr.np){a:Act}(hR:RR E tr s a w):RR E tr s' a w:=by
 induction h with
 | mk h1 h2 h3 h4=>exact VQ ⟨hnp ▸ h1,h2,h3,h4⟩ hR
 | swap i j hi hj hl _ ih=>
  simp only[X27] at hl
  exact ih (WF (hnp ▸ X29 hi) (hnp ▸ X29 hj) (X29 hl.1) (X29 hl.2) hR)
def AE.exit':AE->Exit
 | .normal=>.normal
 | .exit id=>.exit id
 | .ret=>.ret
def Tu (wl:WL)(P:Program)(cx:Cx):Prop:=∀(E:Env),E.wl=wl->∀(tr:Trk) (id:Nat) (ops:Array Oper) (st:ASt) (a:Act) (w:World) (K:ASt->Prop) (Q:Exit->Act->World->Prop),tr.np=cx.np->
 (Ys cx ops st K\/Wj cx ops st K)->RR E tr st a w->(∀st' a' w',K st'->RR E tr st' a' w'->Q .normal a' w')->(Code.region id ops true).wp P Q a w
theorem IQ {np:Nat}(hnp:tr.np=np){X:(ASt->Prop)->Prop}{K:ASt->Prop}{c:Prop}(h:CutP np X K)
  (hX :∀K':ASt->Prop,X K'->(∀(st':ASt) (a':Act) (w':World),K' st'->RR E tr st' a' w'->∃st,K st/\RR E tr st a' w')->c):c:=by
 rcases h with h | ⟨J,h1,h2⟩
 ·exact hX K h fun st a' w' hK hR=>⟨st,hK,hR⟩
 refine hX _ h1 fun st a' w' ⟨s,hw,hJ⟩ hR=>⟨s,h2 s hJ,?_⟩
 rw[<- hnp] at hw
 exact MN hw rfl hR
theorem Pj {cx:Cx}(hT:TabOk P cx.T)(hC:QG E.wl P cx)(hnp:tr.np=cx.np){ops:Array Oper}{o:Oper}{st:ASt}{a:Act}{K:ASt->Prop}{Q:Exit->Act->World->Prop}
  (h:Xd cx ops o st K) (hR:RR E tr st a w) {next:Act->World->Prop} (hn :∀st' a' w',K st'->RR E tr st' a' w'->next a' w') :
  if Region.wanted o (yielded ops a.tmps) then o.wp P a w next Q else next (a.put o.dst undef) w:=by
 have plain :∀{tm:List AV} {ob:List (Option OB)},RR E tr ⟨tm,ob⟩ a w->opX cx o (evO tm) ob (fun v w=>Lx tm o.dst v fun tm=>wrK ob w fun ob=>K ⟨tm,ob⟩)->o.wp P a w next Q:=by
  intro tm ob ⟨S,φ,hR,htr⟩ h
  obtain⟨out,wr,hK,hr,hrun⟩:=Ya hT hC hR.mem (ρ:=a.eval) (fun x=>hR.av x) h
  rw[HT,QT] at hK
  refine Kq hrun fun v w' hp=>hn _ _ _ hK ?_
  obtain⟨S',φ',m',k',r',c'⟩:=hp
  have e:=Xy ob wr hr
  exact⟨S',φ',hR.put (ob':=wrL ob wr) (by rw[e];exact m') (by rw[e];exact k') (by rw[e];exact r') (by rw[e];exact c'),by simp only[e];exact htr.kept k'⟩
 obtain⟨tm0,ob⟩:=st
 refine N8 (Y:=fun tm=>cA cx o tm ob K) (fun tm hR h=>?_) (st:=⟨tm0,ob⟩) h hR hn
 simp only at hR
 unfold cA at h
 split at h
 ·rename_i c hop
  split at h
  ·rename_i x hca
   obtain⟨f,caps,h,hf⟩:=UG h
   split at h
   ·obtain⟨callee,args,argTypes⟩:=c
    simp only at hca
    subst hca
    refine IQ (E:=E) hnp h fun K' hX hw=>?_
    obtain⟨S,φ,hR,htr⟩:=hR
    have hg:=hC.2.2 _ _ _ _ hX
    refine Kq (Vp (w:=w) (S:=S) (φ:=φ) (obl:=ob) (cx:=cx) (fun x=>hR.av x) hop hf (Q:=fun v w'=>∃S' φ' r ob',Lx tm o.dst r (fun tm=>K' ⟨tm,ob'⟩)/\Mem E w' S' φ' (fun r=>ob'.getD r none)/\Kept w S φ (fun r=>ob.getD r none) w' S' φ' (fun r=>ob'.getD r none)/\
      RepA S' w' φ' (fun r=>ob'.getD r none) r v/\Closed (fun r=>ob'.getD r none) r) fun vals hv=>hg.elim (fun ⟨g1,g2⟩=>.inl ⟨g1,g2 E rfl w S φ vals hv hR.mem⟩) fun g=>.inr (g E rfl w S φ vals hv hR.mem)) fun v w' ⟨S',φ',r,ob',hK,m',k',r',c'⟩=>?_
    rw[HT] at hK
    obtain⟨st,h1,h2⟩:=hw _ _ _ hK ⟨S',φ',hR.put (ob':=ob') m' k' r' c',htr.kept k'⟩
    exact hn _ _ _ h1 h2
   exact plain hR h
  exact plain hR h
 exact plain hR h
theorem Oa {cx:Cx}(hT:TabOk P cx.T)(hC:QG E.wl P cx)(hnp:tr.np=cx.np){ops:Array Oper}{Q:Exit->Act->World->Prop} :∀(l:List Nat) (os:List Oper) (_:l.map (fun i=>ops[i]?)=os.map some)
  {st:ASt} {a:Act} {w:World} {K:ASt->Prop} (_:Zn cx ops os st K) (_:RR E tr st a w) (_ :∀st' a' w',K st'->RR E tr st' a' w'->Q .normal a' w'),wpOps P ops Q l a w
 | [],[],_,st,a,w,K,h,hR,hn=>hn st a w h hR
 | i::l,o::os,hm,st,a,w,K,h,hR,hn=>by
  simp only[List.map_cons,List.cons.injEq] at hm
  obtain⟨hi,hm⟩:=hm
  rw[wpOps_cons]
  unfold wpOp
  simp only[hi]
  simp only[Zn] at h
  have:=Pj (Q:=Q) hT hC hnp h hR (next:=wpOps P ops Q l) fun st' a' w' hK hR'=>Oa hT hC hnp l os hm hK hR' hn
  split
  ·rename_i hw;rw[if_pos hw] at this;exact .inl this
  rename_i hw;rw[if_neg hw] at this;exact this
 | [],_::_,hm,_,_,_,_,_,_,_=>by simp at hm
 | _::_,[],hm,_,_,_,_,_,_,_=>by simp at hm
theorem Pg {cx:Cx}(hT:TabOk P cx.T)(hC:QG E.wl P cx)(hD:Tu E.wl P cx)(hnp:tr.np=cx.np)(c:Code) :
  ∀{st:ASt} {a:Act} {w:World} {K:AE->ASt->Prop} {Q:Exit->Act->World->Prop},Gi cx c K st->RR E tr st a w->(∀e st' a' w',K e st'->RR E tr st' a' w'->Q e.exit' a' w')->c.wp P Q a w:=by
 induction c with
 | skip=>intro st a w K Q h hR hn;exact wp_skip (hn .normal _ _ _ h hR)
 | region id ops draw=>
  intro st a w K Q h hR hn
  cases draw with
  | false=>
   have h:cM cx ops st (K .normal):=h
   unfold cM at h
   split at h
   ·refine IQ (E:=E) hnp h fun K' hX hw=>wp_region (Oa hT hC hnp (List.range ops.size) ops.toList (SZ ops) hX hR fun st' a' w' hK hR'=>?_)
    obtain⟨s,h1,h2⟩:=hw _ _ _ hK hR'
    exact hn .normal _ _ _ h1 h2
   exact wp_region (Oa hT hC hnp (List.range ops.size) ops.toList (SZ ops) h hR fun st' a' w' hK hR'=>hn .normal _ _ _ hK hR')
  | true=>
   simp only[Gi] at h
   split at h
   ·refine IQ (E:=E) hnp h fun K' hX hw=>hD E rfl tr id ops st a w _ Q hnp hX hR fun st' a' w' hK hR'=>?_
    obtain⟨s,h1,h2⟩:=hw _ _ _ hK hR'
    exact hn .normal _ _ _ h1 h2
   exact hD E rfl tr id ops st a w _ Q hnp h hR fun st' a' w' hK hR'=>hn .normal _ _ _ hK hR'
 | seq x y ihx ihy=>
  intro st a w K Q h hR hn
  simp only[Gi] at h
  refine wp_seq (ihx h hR fun e st' a' w' hK hR'=>?_)
  cases e with
  | normal=>exact ihy hK hR' hn
  | exit id=>exact hn _ _ _ _ hK hR'
  | ret=>exact hn _ _ _ _ hK hR'
 | cond c x y ihx ihy=>
  intro st a w K Q h hR hn
  simp only[Gi] at h
  obtain⟨S,φ,hR1,htr⟩:=hR
  split at h
  ·rename_i b hb
   have hav:=(hR1.av c).1
   rw[hb] at hav
   have hv:=hav.bool
   refine IQ (E:=E) hnp h fun K' hX hw=>?_
   have hn' :∀e st' a' w',onN K K' e st'->RR E tr st' a' w'->Q e.exit' a' w':=by
    intro e st' a' w' hK hR'
    cases e with
    | normal=>
     obtain⟨s,h1,h2⟩:=hw _ _ _ hK hR'
     exact hn .normal _ _ _ h1 h2
    | exit id=>exact hn _ _ _ _ hK hR'
    | ret=>exact hn _ _ _ _ hK hR'
   refine wp_cond hv ?_
   cases b with
   | true=>exact ihx hX ⟨S,φ,hR1,htr⟩ hn'
   | false=>exact ihy hX ⟨S,φ,hR1,htr⟩ hn'
  exact h.elim
 | block id b ih=>
  intro st a w K Q h hR hn
  simp only[Gi] at h
  refine IQ (E:=E) hnp h fun K' hX hw=>?_
  refine wp_block (ih hX hR fun e st' a' w' hK hR'=>?_)
  cases e with
  | normal=>
   obtain⟨s,h1,h2⟩:=hw _ _ _ hK hR'
   exact hn .normal _ _ _ h1 h2
  | ret=>exact hn .ret _ _ _ hK hR'
  | exit i=>
   simp only[onB] at hK
   simp only[AE.exit',Exit.inBlock]
   by_cases hi:i=id
   ·rw[if_pos hi]
    rw[Bj.2 hi] at hK
    obtain⟨s,h1,h2⟩:=hw _ _ _ hK hR'
    exact hn .normal _ _ _ h1 h2
   rw[if_neg hi]
   have:Nat.beq i id=false:=by
    cases hb:Nat.beq i id with
    | false=>rfl
    | true=>exact absurd (Bj.1 hb) hi
   rw[this] at hK
   exact hn (.exit i) _ _ _ hK hR'
 | loop b ih=>
  intro st a w K Q h hR hn
  have h:LoopP cx.np (Gi cx b) K st:=h
  obtain⟨h⟩:=h
  obtain⟨I,⟨s,n,hw,hI⟩,round⟩:=h (by
   intro t sz es he
   obtain⟨S,φ,hR1,htr⟩:=hR
   have hav:=(hR1.av (.tmp t)).1
   simp only[evO] at hav
   rw[he] at hav
   generalize a.eval (.tmp t)=v at hav
   cases hav with | d _ _ hav=>
   cases hav with
   | lst0=>simp
   | lst _ _ _ _ _ _ hl=>exact hl) (by
   intro r e sz es f he
   obtain⟨S,φ,hR1,htr⟩:=hR
   obtain⟨_,_,_,h⟩:=hR1.mem.obj r _ he
   rcases h with ⟨_,rfl⟩|⟨b,cap,vs,g,_,_,f3,f4,_⟩
   ·simp
   exact Nat.le_trans f3 f4)
  rw[<- hnp] at hw
  refine wp_loop_ghost (fun n a w=>∃s,I s n/\RR E tr s a w) n ⟨s,hI,MN hw rfl hR⟩ ?_
  rintro n a w ⟨s,hI,hR⟩
  refine ih (round s n hI) hR fun e st' a' w' hK hR'=>?_
  cases e with
  | normal=>
   obtain⟨s',m,hm,hw,hI'⟩:=hK
   rw[<- hnp] at hw
   exact⟨m,hm,s',hI',MN hw rfl hR'⟩
  | exit id=>exact hn _ _ _ _ hK hR'
  | ret=>exact hn _ _ _ _ hK hR'
 | exit id=>intro st a w K Q h hR hn;exact wp_exit (hn (.exit id) _ _ _ h hR)
 | ret=>intro st a w K Q h hR hn;exact wp_ret (hn .ret _ _ _ h hR)
 | rangeFunc=>intro st a w K Q h;simp[Gi] at h
 | scope=>intro st a w K Q h;simp[Gi] at h
 | label=>intro st a w K Q h;simp[Gi] at h
 | goto=>intro st a w K Q h;simp[Gi] at h
 | refuse=>intro st a w K Q h;simp[Gi] at h
end
end Go.AX
end
section
namespace Go.AX
section
variable {P:Program} {E:Env} {tr:Trk} {w:World} {S:Sc} {φ:Nat->Option (Nat×Rp)}
def Yn (tmps:Array Value):ResultVar->Sem Value
 | .tmp t=>pure (tmps.getD t undef)
 | .cell a t=>do loadVar t (← asAddr (tmps.getD a undef))
def Zb:List Value->Value
 | [u]=>u
 | us=>.tuple us.toArray
theorem Wx (fn:Func)(tmps:Array Value):results fn tmps=(do
  let vs ← fn.results.mapM (Yn tmps)
  pure (if h:vs.size=1 then vs[0] else .tuple vs)):=by
 unfold results
 congr 2
theorem PT {fn:Func}{tmps:Array Value}{us:List Value}(h:(fn.results.toList.mapM (Yn tmps)).run P w=.ok us w):(results fn tmps).run P w=.ok (Zb us) w:=by
 rw[Wx,Array.mapM_eq_mapM_toList]
 simp only[Sem.run_bind,Sem.run_map,h,Result.andThen_ok,Sem.run_pure]
 match us with
 | []=>rfl
 | [u]=>rfl
 | u::v::us=>rfl
theorem Jc {cx:Cx}(hT:TabOk P cx.T){st:ASt}{a:Act}(hR:R E st a w S φ) :∀{rs:List ResultVar} {K:List AV->Prop},Ut cx st rs K->
  ∃asz us,K asz/\(rs.mapM (Yn a.tmps)).run P w=.ok us w/\All2 (fun x v=>RepA S w φ (obf st.ob) x v/\Closed (obf st.ob) x) asz us
 | [],K,h=>⟨[],[],h,rfl,.nil⟩
 | .tmp t::rs,K,h=>by
  simp only[Ut,Bn] at h
  obtain⟨asz,us,h1,h2,h3⟩:=Jc hT hR h
  refine⟨_,a.tmps.getD t undef::us,h1,?_,.cons (hR.av (.tmp t)) h3⟩
  simp[List.mapM_cons,Yn,h2]
 | .cell p ty::rs,K,h=>by
  simp only[Ut] at h
  have hp:=hR.av (.tmp p)
  simp only[evO] at hp
  split at h
  ·rename_i r off hr
   rw[hr] at hp
   obtain⟨out,u,h1,h2,h3,h4⟩:=Py hT hR.mem hp.1 hp.2 h
   obtain⟨asz,us,g1,g2,g3⟩:=Jc hT hR h1
   refine⟨_,u::us,g1,?_,.cons ⟨h3,h4⟩ g3⟩
   obtain⟨b,c,_,hv⟩:=hp.1.ref'
   have hv:a.tmps.getD p undef=.pointer (some ⟨b,off,none⟩):=hv
   have h2':(loadVar ty ⟨b,off,none⟩).run P w=.ok u w:=by
    have:(Instr.loadAt ty (a.tmps.getD p undef)).run P w=.ok u w:=h2
    rw[hv] at this
    simpa[Instr.loadAt,Instr.sureAddr] using this
   simp only[List.mapM_cons,Yn,hv,asAddr,Sem.run_bind,Sem.run_pure,Result.andThen_ok,h2',g2]
  exact h.elim
theorem Mem.restrict {ob:Nat->Option OB}(m:Mem E w S φ ob){idx:List Nat}{objs:List OB}(hn:idx.Nodup)(hl:idx.length=objs.length)
  (ho :∀i (hi:i<idx.length) (hi':i<objs.length),ob idx[i]=some objs[i]/\BW objs[i]=true):Mem E w S (sel idx φ) (ofL objs):=by
 have get :∀{i:Nat},ofL objs i≠none->∃hi:i<idx.length,ob idx[i]≠none/\sel idx φ i=φ idx[i]:=by
  intro i h
  have hi:i<idx.length:=by
   refine Nat.lt_of_not_le fun hge=>h ?_
   simp[ofL,show objs.length<=i by omega]
  refine⟨hi,?_,by simp[sel,hi]⟩
  rw[(ho i hi (by omega)).1];simp
 refine⟨fun i o h=>?_,fun i j b c c' h1 h2 g1 g2=>?_,fun i o h r' hm=>?_,m.sS,m.kS,m.bS,m.nS,m.fr,m.sz,fun i b c h g=>?_,m.os⟩
 ·obtain⟨hi,h1,h2⟩:=get (i:=i) (by simp[h])
  have e1:objs[i]=o:=by simpa[ofL,show i<objs.length by omega] using h
  rw[<- e1]
  exact (m.obj _ _ (ho i hi (by omega)).1).rename (ho i hi (by omega)).2 h2
 ·obtain⟨hi,p1,p2⟩:=get h1
  obtain⟨hj,q1,q2⟩:=get h2
  rw[p2] at g1
  rw[q2] at g2
  exact (List.getElem_inj hn).1 (m.inj _ _ b c c' p1 q1 g1 g2)
 ·obtain⟨hi,_,_⟩:=get (i:=i) (by simp[h])
  have e1:objs[i]=o:=by simpa[ofL,show i<objs.length by omega] using h
  rw[<- e1,Jy (ho i hi (by omega)).2] at hm
  simp at hm
 obtain⟨hi,p1,p2⟩:=get h
 exact m.ow _ b c p1 (p2 ▸ g)
theorem Nw {obl:List (Option OB)} :∀{n i:Nat} {K:List OB->Prop},Jg obl n i K->∃objs,K objs/\objs.length=n/\∀j (hj:j<objs.length),obl.getD (i+j) none=some objs[j]/\BW objs[j]=true
 | 0,i,K,h=>⟨[],h,rfl,fun j hj=>by simp at hj⟩
 | n+1,i,K,h=>by
  simp only[Jg,A1] at h
  obtain⟨o,ho,h⟩:=h
  have go :∀{o:OB},obl.getD i none=some o->BW o=true->Jg obl n (i+1) (fun l=>K (o::l))->∃objs,K objs/\objs.length=n+1/\∀j (hj:j<objs.length),obl.getD (i+j) none=some objs[j]/\BW objs[j]=true:=by
   intro o ho hc h
   obtain⟨objs,g1,g2,g3⟩:=Nw h
   refine⟨o::objs,g1,by simp[g2],fun j hj=>?_⟩
   cases j with
   | zero=>exact⟨ho,hc⟩
   | succ j=>
    have:=g3 j (by simpa using hj)
    rw[show i+1+j=i+(j+1) by omega] at this
    exact this
  cases o with
  | box cs=>
   simp only[Jo] at h
   exact go ho h.1 h.2
  | row e sz es f=>
   simp only[AI] at h
   exact go ho h.1 h.2
  | gone=>exact go ho rfl h
  | amap=>exact h.elim
  | map k e es=>exact go ho rfl h
theorem OY :∀{rs:List Nat} {r k:Nat},U0 rs r=some k->rs[k]?=some r
 | [],r,k,h=>by simp[U0] at h
 | x::rs,r,k,h=>by
  simp only[U0] at h
  split at h
  ·rename_i hb
   simp only[X24] at h
   subst h
   simp[X30 hb]
  split at h
  ·rename_i k' hk
   simp only[X24] at h
   subst h
   simpa using OY hk
  simp at h
theorem Sm :∀{rs:List Nat} {r:Nat},U0 rs r=none->Ni rs r=false
 | [],r,_=>rfl
 | x::rs,r,h=>by
  simp only[U0] at h
  split at h
  ·simp at h
  rename_i hb
  split at h
  ·simp at h
  rename_i hk
  simp only[Ni,hb,Sm hk,Bool.or_self]
def blF (rs:List Nat):AV->AV
 | .own r n=>(match Ni rs r with
  | true=>.d (.nil 1)
  | false=>.own r n)
 | a=>a
theorem Qz (rs:List Nat) :∀cs:List AV,O3 rs cs=cs.map (blF rs)
 | []=>rfl
 | c::cs=>by cases c<;>simp only[O3,List.map_cons,Qz rs cs]<;>rfl
def mxF (np:Nat)(rs:List Nat):AV->D->AV
 | .own r n,d=>(match U0 rs r with
  | some k=>.own (np+k) n
  | none=>.d d)
 | _,d=>.d d
theorem VP (np:Nat)(rs:List Nat) :∀(cs:List AV) (ds:List D),XA np rs cs ds=List.zipWith (mxF np rs) cs ds
 | [],ds=>by simp[XA]
 | c::cs,[]=>by cases c<;>simp[XA]
 | c::cs,d::ds=>by cases c<;>simp only[XA,List.zipWith_cons_cons,VP np rs cs ds]<;>rfl
theorem Ui {obl:List (Option OB)}{ob:Nat->Option OB}{np:Nat}{rs:List Nat}(m:Mem E w S φ ob)(hx:FrzExt (obf obl) ob){cs:List AV}{v:Value}{K:AV->Prop}(hv:RepA S w φ ob (.agg cs) v)(h:Up np obl rs cs K) :
  ∃x' wr S',K x'/\Mem E w S' φ (Au ob wr)/\Kept w S φ ob w S' φ (Au ob wr)/\FrzExt (obf obl) (Au ob wr)/\(∀q∈wr,np<=q.1/\q.1∉rs)/\rs.Nodup/\(∀r∈rs,np<=r)/\
   (∀(φ':Nat->Option (Nat×Rp)) (ob':Nat->Option OB),(∀k (hk:k<rs.length),φ' (np+k)=φ rs[k]/\ob' (np+k)=ob rs[k])->RepA S' w φ' ob' x' v)/\∀q∈x'.refs,∃k,k<rs.length/\q=np+k:=by
 unfold Up at h
 rw[AI] at h
 obtain⟨h0,h⟩:=h
 simp only[X27,List.all_eq_true] at h0
 cases hv with | agg _ vs f hs hf hone hrr=>
 let pk:Nat->Bool:=fun i=>match cs[i]? with
  | some (.own r _)=>Ni rs r
  | _=>false
 have hrep:RepA S w φ ob (.agg (O3 rs cs)) (.agg (Array.ofFn (n:=cs.length) fun i=>if pk i then .slice none 0 0 else f i)):=by
  rw[Qz]
  refine .agg _ _ (fun i=>if pk i then .slice none 0 0 else f i) (by simp) (fun i hi=>?_) (fun i hi=>?_) fun i hi=>?_
  ·have hi:i<cs.length:=by simpa using hi
   simp[hi]
  ·have hi':i<cs.length:=by simpa using hi
   rw[List.getElem_map]
   have:=hone i hi'
   revert this
   generalize cs[i]=c
   intro this
   cases c<;>simp only[blF]<;>first | exact this | (split<;>first | rfl | exact this)
  have hi':i<cs.length:=by simpa using hi
  rw[List.getElem_map]
  have h1:=hrr i hi'
  have h2:pk i=match cs[i] with
   | .own r _=>Ni rs r
   | _=>false:=by simp only[pk,X15 hi'];generalize cs[i]=c;cases c<;>rfl
  revert h1 h2
  generalize cs[i]=c
  intro h1 h2
  cases c<;>simp only[blF]<;>simp only at h2<;>(try (rw[if_neg (by simp[h2])];exact h1))
  rename_i r n
  cases hb:Ni rs r with
  | true=>rw[if_pos (by rw[h2,hb])];exact .d _ _ (.nil 1)
  | false=>rw[if_neg (by rw[h2,hb];simp)];exact h1
 obtain⟨y,wr,S',h1,h2,h3,h4,h5,h6⟩:=Dw m hx hrep h
 cases y with
 | agg ds=>
  simp only[AI] at h1
  obtain⟨hw,hK⟩:=h1
  have hw' :∀q∈wr,np<=q.1/\q.1∉rs:=fun q hq=>by
   have:=List.all_eq_true.1 hw q hq
   simp only[X27,Bool.not_eq_true'] at this
   exact⟨X29 this.1,fun e=>by rw[VO.2 e] at this;simp at this⟩
  cases h4 with | agg _ _ g gs gf gn gr=>
  have hlen:ds.length=cs.length:=by simpa using gs.symm
  rw[VP] at hK
  have hml:(List.zipWith (mxF np rs) cs ds).length=cs.length:=by simp[hlen]
  refine⟨_,wr,S',hK,h2,h3,h5,hw',Rh h0.1,fun r hr=>X29 (h0.2 r hr),fun φ' ob' he=>?_,fun q hq=>?_⟩
  ·refine .agg _ _ f (by omega) (fun i hi=>hf i (by omega)) (fun i hi=>?_) fun i hi=>?_
   ·have hi':i<ds.length:=by omega
    rw[List.getElem_zipWith]
    have hn:=gn i hi'
    generalize cs[i]'(by omega)=c
    have hd :∀d:D,d.isAgg=false->(AV.d d).one=true:=fun d hd=>by simp[AV.one,hd]
    cases c<;>simp only[mxF]<;>first | exact hd _ hn | (split<;>first | rfl | exact hd _ hn)
   have hi':i<ds.length:=by omega
   have hi2:i<cs.length:=by omega
   rw[List.getElem_zipWith]
   have q1:=hrr i hi2
   have q2:=gr i hi'
   have q3:=gf i hi'
   have h2:pk i=match cs[i] with
    | .own r _=>Ni rs r
    | _=>false:=by simp only[pk,X15 hi2];generalize cs[i]=c;cases c<;>rfl
   have q4:pk i=false->RepA S' w φ' ob' (.d ds[i]) (f i):=by
    intro hp
    have:g i=f i:=by
     simp only[Array.getElem?_ofFn,hi2,dif_pos,hp] at q3
     simpa using q3.symm
    rw[<- this]
    exact .d _ _ q2
   revert q1 h2
   generalize cs[i]=c
   intro q1 h2
   cases c<;>simp only[mxF]<;>simp only at h2<;>(try exact q4 h2)
   rename_i r n
   split
   ·rename_i k hk
    have hk2:=OY hk
    obtain⟨hk3,hk4⟩:=X16.1 hk2
    obtain⟨e1,e2⟩:=he k hk3
    rw[hk4] at e1 e2
    cases q1 with | own _ _ _ kk c a0 hv' hk h1' hb=>
    refine .own _ n _ kk c a0 hv' hk (fun e' sz' es' f' hx=>?_) fun cs hx=>?_
    ·obtain⟨g1,g2⟩:=h1' e' sz' es' f' (e2.symm.trans hx)
     refine⟨g1,fun hn=>?_⟩
     have:=g2 hn
     unfold Ib at *
     rwa [e1]
    obtain⟨g1,b,c',g2,g3⟩:=hb cs (e2.symm.trans hx)
    exact⟨g1,b,c',e1.trans g2,g3⟩
   rename_i hk
   exact q4 (h2.trans (Sm hk))
  obtain⟨c,hc1,hc2⟩:=AV.refs_mem' _ q (by simpa[AV.refs] using hq)
  obtain⟨i,hi,rfl⟩:=List.getElem_of_mem hc1
  rw[List.getElem_zipWith] at hc2
  revert hc2
  generalize cs[i]'(by omega)=c
  intro hc2
  cases c<;>simp only[mxF] at hc2<;>(try (simp[AV.refs] at hc2;done))
  split at hc2
  ·rename_i k hk
   have:=(X16.1 (OY hk)).1
   exact⟨k,this,by simpa[AV.refs] using hc2⟩
  simp[AV.refs] at hc2
 | _=>exact h1.elim
theorem Ph {obl:List (Option OB)} :∀{rs:List Nat} {K:List OB->Prop},S8 obl rs K->∃os,K os/\os.length=rs.length/\∀i (hi:i<os.length) (hi':i<rs.length),obf obl rs[i]=some os[i]/\BW os[i]=true
 | [],K,h=>⟨[],h,rfl,fun i hi=>by simp at hi⟩
 | r::rs,K,h=>by
  simp only[S8,A1] at h
  obtain⟨o,ho,h⟩:=h
  cases o with
  | row e sz es f=>
   simp only[AI] at h
   obtain⟨hlk,h⟩:=h
   obtain⟨os,g1,g2,g3⟩:=Ph h
   refine⟨_,g1,by simp[g2],fun i hi hi'=>?_⟩
   cases i with
   | zero=>exact⟨ho,hlk⟩
   | succ i=>exact g3 i (by simpa using hi) (by simpa using hi')
  | _=>exact h.elim
theorem Rz {obl:List (Option OB)}{ob:Nat->Option OB}{np:Nat}(m:Mem E w S φ ob)(hx:FrzExt (obf obl) ob){x:AV}{v:Value}{K:AV->Option Nat->Prop}(hv:RepA S w φ ob x v)(hc:Closed (obf obl) x)(h:WY np obl x K) :
  ∃x' nw wr S',K x' nw/\Mem E w S' φ (Au ob wr)/\Kept w S φ ob w S' φ (Au ob wr)/\FrzExt (obf obl) (Au ob wr)/\(∀q∈wr,np<=q.1)/\
   ((nw=none/\RepA S' w φ (Au ob wr) x' v/\Closed (obf obl) x'/\∀r∈x'.refs,r<np) \/∃r,nw=some r/\np<=r/\(∀q∈wr,q.1≠r)/\
    (∀(φ':Nat->Option (Nat×Rp)) (ob':Nat->Option OB),φ' np=φ r->ob' np=Au ob wr r->RepA S' w φ' ob' x' v)/\∀q∈x'.refs,q=np):=by
 cases x<;>simp only[WY] at h
 case d y=>
  rw[Fj] at h
  cases hv with | d _ _ hv=>
  exact⟨_,_,[],S,h,m,.refl _ _ _ _,hx,fun q hq=>by simp at hq,.inl ⟨rfl,.d _ _ hv.norm,BJ _ _,fun r hr=>by simp[AV.refs] at hr⟩⟩
 case own r n=>
  split at h
  ·rename_i hb
   exact⟨_,_,[],S,h,m,.refl _ _ _ _,hx,fun q hq=>by simp at hq,.inl ⟨rfl,hv,hc,fun r' hr'=>by simp only[AV.refs,X14] at hr';rw[hr'];exact X29 hb⟩⟩
  rename_i hb
  have hge:np<=r:=by
   refine Nat.le_of_not_lt fun hlt=>?_
   rw[show Nat.blt r np=true from Nat.ble_eq_true_of_le hlt] at hb
   simp at hb
  rcases h with h | h
  ·have h0:=h
   simp only[toD,A1] at h0
   obtain⟨y,wr,S',h1,h2,h3,h4,h5,h6⟩:=Dw (K:=fun x w=>K (.d x) none/\∀q∈w,np<=q.1) m hx hv (by
    obtain⟨o,ho,h0⟩:=h0
    simp only[toD,A1]
    refine⟨o,ho,?_⟩
    cases o with
    | box=>exact h0
    | map=>exact h0
    | gone=>exact h0
    | amap=>exact h0
    | row e sz es f=>exact⟨h0.1,h0.2,fun q hq=>by simp only[X14] at hq;rw[hq];exact hge⟩)
   exact⟨_,_,wr,S',h1.1,h2,h3,h5,h1.2,.inl ⟨rfl,.d _ _ h4,BJ _ _,fun r hr=>by simp[AV.refs] at hr⟩⟩
  refine⟨_,_,[],S,h,m,.refl _ _ _ _,hx,fun q hq=>by simp at hq,.inr ⟨r,rfl,hge,fun q hq=>by simp at hq,fun φ' ob' e1 e2=>?_,fun q hq=>by simpa[AV.refs] using hq⟩⟩
  cases hv with | own _ _ _ k c a0 hv' hk h1' hb=>
  refine .own _ n _ k c a0 hv' hk (fun e' sz' es f' hx=>?_) fun cs hx=>?_
  ·obtain⟨g1,g2⟩:=h1' e' sz' es f' (e2.symm.trans hx)
   refine⟨g1,fun hn=>?_⟩
   have:=g2 hn
   unfold Ib at *
   rwa [e1]
  obtain⟨g1,b,c',g2,g3⟩:=hb cs (e2.symm.trans hx)
  exact⟨g1,b,c',e1.trans g2,g3⟩
 case agg cs=>
  obtain⟨y,wr,S',h1,h2,h3,h4,h5,h6⟩:=Dw m hx hv h
  rw[AI] at h1
  refine⟨_,_,wr,S',h1.2,h2,h3,h5,fun q hq=>?_,.inl ⟨rfl,.d _ _ h4,BJ _ _,fun r hr=>by simp[AV.refs] at hr⟩⟩
  have:=h1.1
  simp only[List.all_eq_true] at this
  exact X29 (this q hq)
 case mp r=>
  split at h
  ·rename_i hb
   exact⟨_,_,[],S,h,m,.refl _ _ _ _,hx,fun q hq=>by simp at hq,.inl ⟨rfl,hv,hc,fun r' hr'=>by simp only[AV.refs,X14] at hr';rw[hr'];exact X29 hb⟩⟩
  rename_i hb
  have hge:np<=r:=by
   refine Nat.le_of_not_lt fun hlt=>?_
   rw[show Nat.blt r np=true from Nat.ble_eq_true_of_le hlt] at hb
   simp at hb
  refine⟨_,_,[],S,h,m,.refl _ _ _ _,hx,fun q hq=>by simp at hq,.inr ⟨r,rfl,hge,fun q hq=>by simp at hq,fun φ' ob' e1 e2=>?_,fun q hq=>by simpa[AV.refs] using hq⟩⟩
  cases hv with | mp _ b c hφ hb hc'=>
  exact .mp _ b c (e1.trans hφ) (fun e' sz' es f' hx=>hb e' sz' es f' (e2.symm.trans hx)) fun cs hx=>hc' cs (e2.symm.trans hx)
 case ref r off=>
  split at h
  ·rename_i hb
   exact⟨_,_,[],S,h,m,.refl _ _ _ _,hx,fun q hq=>by simp at hq,.inl ⟨rfl,hv,hc,fun r' hr'=>by simp only[AV.refs,X14] at hr';rw[hr'];exact X29 hb⟩⟩
  rename_i hb
  have hge:np<=r:=by
   refine Nat.le_of_not_lt fun hlt=>?_
   rw[show Nat.blt r np=true from Nat.ble_eq_true_of_le hlt] at hb
   simp at hb
  refine⟨_,_,[],S,h,m,.refl _ _ _ _,hx,fun q hq=>by simp at hq,.inr ⟨r,rfl,hge,fun q hq=>by simp at hq,fun φ' ob' e1 e2=>?_,fun q hq=>by simpa[AV.refs] using hq⟩⟩
  cases hv with | ref _ _ b c hφ hb=>
  exact .ref _ off b c (e1.trans hφ) fun e' sz' es f' hx=>hb e' sz' es f' (e2.symm.trans hx)
theorem Px {obl:List (Option OB)}{np:Nat} :∀{xs:List AV} {vs:List Value} {S:Sc} {ob:Nat->Option OB} {K:List AV->Prop} (_:Mem E w S φ ob) (_:FrzExt (obf obl) ob) (_:All2 (fun x v=>RepA S w φ ob x v/\Closed (obf obl) x) xs vs) (_:Vt np obl xs K),
  ∃xs' wr S',K xs'/\Mem E w S' φ (Au ob wr)/\Kept w S φ ob w S' φ (Au ob wr)/\FrzExt (obf obl) (Au ob wr)/\(∀q∈wr,np<=q.1)/\All2 (fun x v=>RepA S' w φ (Au ob wr) x v/\Closed (obf obl) x/\∀r∈x.refs,r<np) xs' vs
 | [],[],S,ob,K,m,hx,_,h=>⟨[],[],S,h,m,.refl _ _ _ _,hx,fun q hq=>by simp at hq,.nil⟩
 | x::xs,v::vs,S,ob,K,m,hx,hv,h=>by
  cases hv with | cons h1 h2=>
  simp only[Vt] at h
  obtain⟨x',nw,wr,S1,hK,m1,k1,hx1,hw1,hr⟩:=Rz m hx h1.1 h1.2 h
  rcases hr with ⟨rfl,r1,r2,r3⟩|⟨r,rfl,_⟩
  ·simp only at hK
   have hcl :∀{r:Nat},obf obl r≠none->ob r≠none:=by
    intro r hr
    rcases hx r with e1 | ⟨e,sz,es,f,e1,e2⟩
    ·rw[e1];exact hr
    rw[e2];simp
   have hcl1 :∀{r:Nat},obf obl r≠none->Au ob wr r≠none:=by
    intro r hr
    rcases hx1 r with e1 | ⟨e,sz,es,f,e1,e2⟩
    ·rw[e1];exact hr
    rw[e2];simp
   obtain⟨xs',wr2,S2,g1,g2,g3,g4,g5,g6⟩:=Px m1 hx1 (h2.imp fun a v hav=>⟨k1.rep (fun r hr=>hcl (hav.2 r hr)) hav.1,hav.2⟩) hK
   refine⟨x'::xs',wr++wr2,S2,g1,by rw[AT];exact g2,by rw[AT];exact k1.trans g3,by rw[AT];exact g4,fun q hq=>?_,?_⟩
   ·rcases X23.1 hq with hq | hq
    ·exact hw1 q hq
    exact g5 q hq
   rw[AT]
   exact .cons ⟨g3.rep (fun r hr=>hcl1 (r2 r hr)) r1,r2,r3⟩ g6
  exact hK.elim
 | [],_::_,_,_,_,_,_,hv,_=>by cases hv
 | _::_,[],_,_,_,_,_,hv,_=>by cases hv
theorem NN {ob:Nat->Option OB}{idx:List Nat}{objs:List OB}{np:Nat}{x:AV}{v:Value}(h:RepA S w φ ob x v)(hr :∀r∈x.refs,r<np)(hi :∀r,r<np->idx[r]?=some r)(ho :∀r,r<np->ofL objs r=ob r) :
  RepA S w (sel idx φ) (ofL objs) x v:=by
 refine h.mono (fun _ _ h=>⟨h,rfl⟩) fun r hr'=>.inl ?_
 have:=hr r hr'
 simp[sel,hi r this,ho r this]
theorem XC {wl : WL}{cx : Cx}(hT : TabOk P cx.T)(hC : QG wl P cx)(hD : Tu wl P cx){f : FuncId}{fn : Func}(hf : P.funcs[f]? = some fn)(hname : fn.name ≠ "runtime.NumGoroutine")
  {args:List AV} {objs:List OB} {res:AV} {objs':List OB} (h:Wz cx fn args objs fun r o=>r=res/\o=objs'):A4 wl P f args objs res objs':=by
 obtain⟨hnp,h⟩:=h
 cases hb:fn.body with
 | none=>simp[hb] at h
 | some c=>
  simp only[hb] at h
  refine⟨⟨fn,hf,hname,by rw[hb];rfl⟩,fun w S φ gb hg vals hsz hargs hnone m=>?_⟩
  have hobf:obf (RV cx.ex fn args objs).ob=ofL objs:=by
   funext r
   simp only[obf,RV,ofL,List.getD_eq_getElem?_getD]
   by_cases hr:r<objs.length
   ·rw[List.getElem?_append_left (by simpa using hr)]
    simp[hr]
   rw[List.getElem?_append_right (by simpa using hr)]
   simp only[X10,List.getElem?_replicate]
   split<;>simp[show objs.length<=r by omega]
  refine calls_of_wp hf hb (Pg (E:=⟨w,S,Iz φ objs.length,wl,gb,hg⟩) (tr:=⟨objs.length,φ,ofL objs⟩) hT hC hD hnp.symm c h ⟨S,φ,⟨?_,fun i hi=>?_,rfl,by rw[hobf];exact m⟩,fun r hr h0=>?_⟩ ?_)
  ·simp[RV,hsz]
  ·rw[hobf]
   simp only[RV,List.getElem_append]
   split
   ·rename_i hlt
    have:=hargs i hlt
    have e:(vals++Array.replicate (fn.ntmps-vals.size) undef).getD i undef=vals.getD i undef:=by
     have:i<vals.size:=by omega
     simp[Array.getElem?_append_left this]
    rw[e];exact this
   rw[List.getElem_replicate]
   exact⟨.dead _,GW _⟩
  ·rw[hobf]
   refine⟨by simp only[ofL];rw[X15 hr];simp,.refl _ _ _⟩
  ·
   intro e st a w' hl hR
   obtain⟨S1,φ1,hR,htr⟩:=hR
   have hne :∀id,e≠.exit id:=fun id he=>by subst he;exact hl
   have hl':Ut cx st fn.results.toList (fun asz=>Jg st.ob cx.np 0 fun objs=>(match asz with
    | [a]=>leave1 cx.np st.ob (fun r o=>r=res/\o=objs') a objs
    | asz=>Vt cx.np st.ob asz fun asz'=>.tup asz'=res/\objs=objs')):=by
    cases e with
    | exit id=>exact absurd rfl (hne id)
    | normal=>exact hl
    | ret=>exact hl
   obtain⟨asz,us,h1,h2,h3⟩:=Jc hT hR hl'
   obtain⟨obs,h1,ho1,ho2⟩:=Nw h1
   simp only[Nat.zero_add] at ho2
   rw[hnp] at ho1 h1
   have hrun:=PT h2
   suffices hend :∃v,(results fn a.tmps).run P w'=.ok v w'/\∃S' φ',Mem ⟨w,S,Iz φ objs.length,wl,gb,hg⟩ w' S' φ' (ofL objs')/\Kept w S φ (ofL objs) w' S' φ' (ofL objs')/\RepA S' w' φ' (ofL objs') res v/\Closed (ofL objs') res by
    obtain⟨v,g1,g2⟩:=hend
    have:a.defers=[]/\∃v,(results fn a.tmps).run P w'=.ok v w'/\∃v',Ending.returned v=.returned v'/\∃S' φ',Mem ⟨w,S,Iz φ objs.length,wl,gb,hg⟩ w' S' φ' (ofL objs')/\Kept w S φ (ofL objs) w' S' φ' (ofL objs')/\RepA S' w' φ' (ofL objs') res v'/\Closed (ofL objs') res:=
     ⟨hR.df,v,g1,v,rfl,g2⟩
    cases e with
    | exit id=>exact absurd rfl (hne id)
    | normal=>exact this
    | ret=>exact this
   have fin :∀{S':Sc} {ob:Nat->Option OB} {idx:List Nat} {x:AV} {v:Value} (_:Mem ⟨w,S,Iz φ objs.length,wl,gb,hg⟩ w' S' φ1 ob) (_ :∀r,r<objs.length->ob r=obf st.ob r) (_:idx.Nodup) (_:idx.length=objs'.length)
     (_ :∀i (hi:i<idx.length) (hi':i<objs'.length),ob idx[i]=some objs'[i]/\BW objs'[i]=true) (_ :∀r,r<objs.length->idx[r]?=some r) (_:Nk S1 w' S' w')
     (_:RepA S' w' (sel idx φ1) (ofL objs') x v) (_:Closed (ofL objs') x),∃S' φ',Mem ⟨w,S,Iz φ objs.length,wl,gb,hg⟩ w' S' φ' (ofL objs')/\Kept w S φ (ofL objs) w' S' φ' (ofL objs')/\RepA S' w' φ' (ofL objs') x v/\Closed (ofL objs') x:=by
    intro S' ob idx x v m' hob hn hl ho hi hk hv hc
    refine⟨S',_,m'.restrict hn hl ho,⟨fun b o hS=>⟨m'.sS b o hS,m'.kS b o hS⟩,fun r hr=>?_,fun r hr=>?_⟩,hv,hc⟩
    ·have hlt:r<objs.length:=by
      refine Nat.lt_of_not_le fun hge=>hr ?_
      simp[ofL,hge]
     obtain⟨q1,q2⟩:=htr r hlt (by simp[ofL,hlt])
     have e1:sel idx φ1 r=φ1 r:=by simp[sel,hi r hlt]
     have hlt2:=(X16.1 (hi r hlt)).1
     have e3:idx[r]=r:=(X16.1 (hi r hlt)).2
     have e2:ofL objs' r=obf st.ob r:=by
      have:=(ho r hlt2 (by omega)).1
      rw[e3,hob r hlt] at this
      rw[this]
      simp[ofL,show r<objs'.length by omega]
     unfold RefOK at q2 ⊢
     rw[e1,e2]
     exact q2
    have hlt:r<objs.length:=by
     refine Nat.lt_of_not_le fun hge=>hr ?_
     simp[ofL,hge]
    have hlt2:=(X16.1 (hi r hlt)).1
    simp only[ofL]
    rw[X15 (show r<objs'.length by omega)]
    simp
   have hcl :∀{ob:Nat->Option OB},FrzExt (obf st.ob) ob->∀{wr:W},True:=fun _ {_}=>trivial
   have hrange :∀r,r<objs.length->(List.range objs.length)[r]?=some r:=fun r hr=>by simp[hr]
   have hoff :∀{wr:W} {r:Nat},(∀q∈wr,objs.length<=q.1)->r<objs.length->Au (obf st.ob) wr r=obf st.ob r:=fun hw hr=>En _ _ _ fun q hq e=>by have:=hw q hq;omega
   split at h1
   ·
    rename_i x _
    cases h3 with | cons hv hrest=>
    cases hrest
    rename_i u
    have h1:(WY objs.length st.ob x fun a' nw=>(match nw with
     | none=>a'=res/\obs=objs'
     | some r=>DT st.ob r fun o=>match o with
      | .box cs=>Hq.cellsD cs fun cs=>a'=res/\obs++[.box cs]=objs'
      | .row e sz es frz=>AU (!frz.linked) (a'=res/\obs++[.row e sz es frz]=objs')
      | .map k e es=>a'=res/\obs++[.map k e es]=objs'
      | .amap ..=>False
      | .gone=>False))\/(∃sz e,x=.d (.nil sz)/\0<sz/\AV.own objs.length 0=res/\obs++[.row e sz [] .no]=objs') \/
       (∃cs rs,x=.agg cs/\Up objs.length st.ob rs cs fun x=>S8 st.ob rs fun os=>x=res/\obs++os=objs') \/
       ∃r n e sz es,x=.own r n/\r<objs.length/\obs[r]?=some (.row e sz es .no)/\AV.own objs.length n=res/\obs.set r .gone++[.row e sz es .no]=objs':=by
     unfold leave1 at h1
     split at h1
     ·rename_i sz _
      rcases h1 with h1 | ⟨h0,e,h1,h2⟩
      ·exact .inl (by simpa[WY,PY] using h1)
      exact .inr (.inl ⟨sz,e,rfl,h0,h1,h2⟩)
     ·rcases h1 with h1 | ⟨rs,h1⟩
      ·exact .inl h1
      exact .inr (.inr (.inl ⟨_,rs,rfl,h1⟩))
     ·rcases h1 with h1 | h1
      ·exact .inl h1
      rw[AI] at h1
      obtain⟨hb,h1⟩:=h1
      split at h1
      ·rename_i e sz es hg
       exact .inr (.inr (.inr ⟨_,_,e,sz,es,rfl,X29 hb,hg,h1.1,h1.2⟩))
      exact h1.elim
     exact .inl h1
    rcases h1 with h1 | ⟨sz,e,rfl,h0,rfl,rfl⟩|⟨cs,rs,rfl,h9⟩|⟨r,n,e,sz,es,rfl,hrl,hgr,rfl,rfl⟩
    rotate_right
    ·
     have hfree:obf st.ob (st.ob.length+objs.length)=none:=by simp[obf]
     have hor:obf st.ob r=some (.row e sz es .no):=by
      have h2:=(ho2 r (by omega)).1
      rw[X15 (by omega)] at hgr
      rw[X25 hgr] at h2
      exact h2
     have hown:=hv.1
     cases hown with | own _ _ _ k c a0 hv' hk h1' hb=>
     obtain⟨hn1,hn2⟩:=h1' e sz es .no hor
     obtain⟨g0,_,_,g3⟩:=hR.mem.obj r _ hor
     have hp :∃p:Option (Nat×Rp),((p=none/\es=[]) \/∃b c c',φ1 r=some (b,c)/\p=some (b,(c',c.2+0*sz))/\es.length<=c'/\0+c'<=c.1)/\p=φ1 r:=by
      rcases g3 with ⟨f1,f2⟩|⟨b,cap,vs,f,f1,f2,f3,f4,f5,f6,f7,f8⟩
      ·exact⟨none,.inl ⟨rfl,f2⟩,f1.symm⟩
      exact⟨some (b,(cap.1,cap.2+0*sz)),.inr ⟨b,cap,cap.1,f1,rfl,f3,by omega⟩,by rw[f1];simp⟩
     obtain⟨p,hp1,hp2⟩:=hp
     obtain⟨m1,k1⟩:=hR.mem.moveAt r (st.ob.length+objs.length) e sz 0 es es p hor hfree (by omega) (fun i hi=>by simp) hp1
     have htr1:=Trk.ok.kept htr k1
     refine⟨_,hrun,?_⟩
     have hne :∀q,q<objs.length->q≠st.ob.length+objs.length:=fun q hq=>by omega
     have hidx:(List.range objs.length++[st.ob.length+objs.length]).Nodup:=by
      rw[List.nodup_append]
      exact⟨List.nodup_range,by simp,fun a ha b hb=>by simp at ha hb;omega⟩
     have hob2 :∀i (hi:i<objs.length),upd (upd (obf st.ob) r (some .gone)) (st.ob.length+objs.length) (some (.row e sz es .no)) i=some ((obs.set r .gone)[i]'(by simp;omega))/\BW ((obs.set r .gone)[i]'(by simp;omega))=true:=fun i hi=>by
      rw[AK _ _ _ _ (hne i hi)]
      by_cases hir:i=r
      ·subst hir
       rw[upd_same]
       simp[BW]
      rw[AK _ _ _ _ hir,List.getElem_set_ne (Ne.symm hir)]
      exact ho2 i (by omega)
     have hmem:=m1.restrict (objs:=obs.set r .gone++[.row e sz es .no]) hidx (by simp[ho1]) (fun i hi hi'=>by
      simp only[X11,List.length_range,X22] at hi
      by_cases hlt:i<objs.length
      ·rw[List.getElem_append_left (by simpa using hlt),List.getElem_append_left (by simp;omega)]
       simp only[List.getElem_range]
       exact hob2 i hlt
      have:i=objs.length:=by omega
      subst this
      rw[List.getElem_append_right (by simp),List.getElem_append_right (by simp;omega)]
      simp only[List.length_range,Nat.sub_self,List.getElem_cons_zero,X21,ho1]
      exact⟨upd_same _ _ _,rfl⟩)
     have hofl:ofL (obs.set r .gone++[.row e sz es .no]) objs.length=some (.row e sz es .no):=by
      simp only[ofL]
      rw[List.getElem?_append_right (by simp;omega)]
      simp[ho1]
     have hsel:sel (List.range objs.length++[st.ob.length+objs.length]) (upd (upd φ1 r none) (st.ob.length+objs.length) p) objs.length=φ1 r:=by
      simp only[sel]
      rw[List.getElem?_append_right (by simp)]
      simp[hp2]
     refine⟨S1,_,hmem,⟨fun b o hS=>⟨m1.sS b o hS,m1.kS b o hS⟩,fun q hq=>?_,fun q hq=>?_⟩,?_,?_⟩
     ·have hlt:q<objs.length:=by
       refine Nat.lt_of_not_le fun hge=>hq ?_
       simp[ofL,hge]
      obtain⟨q1,q2⟩:=htr1 q hlt (by simp[ofL,hlt])
      have e1:sel (List.range objs.length++[st.ob.length+objs.length]) (upd (upd φ1 r none) (st.ob.length+objs.length) p) q=upd (upd φ1 r none) (st.ob.length+objs.length) p q:=by
       simp only[sel]
       rw[List.getElem?_append_left (by simpa using hlt)]
       simp[hlt]
      have e2:ofL (obs.set r .gone++[.row e sz es .no]) q=upd (upd (obf st.ob) r (some .gone)) (st.ob.length+objs.length) (some (.row e sz es .no)) q:=by
       rw[(hob2 q hlt).1]
       simp only[ofL]
       rw[List.getElem?_append_left (by simp;omega),X15]
      unfold RefOK at q2 ⊢
      rw[e1,e2]
      exact q2
     ·have hlt:q<objs.length:=by
       refine Nat.lt_of_not_le fun hge=>hq ?_
       simp[ofL,hge]
      simp only[ofL]
      rw[List.getElem?_append_left (by simp;omega)]
      simp[ho1,hlt]
     ·refine .own _ n _ k c a0 hv' hk (fun e' sz' es' f' hx=>?_) fun cs hx=>?_
      ·rw[hofl] at hx
       simp only[X24,OB.row.injEq] at hx
       obtain⟨rfl,rfl,rfl,rfl⟩:=hx
       refine⟨hn1,fun hn=>?_⟩
       have:=hn2 hn
       unfold Ib at *
       rwa [hsel]
      rw[hofl] at hx;simp at hx
     intro q hq
     have:q=objs.length:=by simpa[AV.refs] using hq
     rw[this,hofl]
     simp
    rotate_right
    ·
     obtain⟨x',wr,S',hK,m1,k1,hx1,hw1,hnd,hge,hrep,hrefs⟩:=Ui hR.mem (FrzExt.refl _) hv.1 h9
     obtain⟨os,⟨rfl,rfl⟩,hol,hos⟩:=Ph hK
     refine⟨u,hrun,?_⟩
     have hg1 :∀q∈wr,objs.length<=q.1:=fun q hq=>(hw1 q hq).1
     have hget :∀k (hk:k<rs.length),(List.range objs.length++rs)[objs.length+k]?=some rs[k]:=fun k hk=>by
      rw[List.getElem?_append_right (by simp)]
      simp[hk]
     have hgo :∀k (hk:k<rs.length),ofL (obs++os) (objs.length+k)=some (os[k]'(by omega)):=fun k hk=>by
      simp only[ofL]
      rw[List.getElem?_append_right (by omega),ho1,Nat.add_sub_cancel_left]
      simp[show k<os.length by omega]
     have hor :∀k (hk:k<rs.length),Au (obf st.ob) wr rs[k]=some (os[k]'(by omega)):=fun k hk=>by
      rw[En _ _ _ fun q hq e=>(hw1 q hq).2 (e ▸ List.getElem_mem hk)]
      exact (hos k (by omega) hk).1
     have hidx:(List.range objs.length++rs).Nodup:=by
      rw[List.nodup_append]
      exact⟨List.nodup_range,hnd,fun a ha b hb e=>by
       have:=hge b hb
       simp at ha
       omega⟩
     refine fin m1 (fun r hr=>hoff hg1 hr) hidx (by simp[ho1,hol]) (fun i hi hi'=>?_) (fun q hq=>?_) k1.k (hrep _ _ fun k hk=>⟨?_,?_⟩) fun q hq=>?_
     ·simp only[X11,List.length_range] at hi
      by_cases hlt:i<objs.length
      ·rw[List.getElem_append_left (by simpa using hlt),List.getElem_append_left (by omega)]
       simp only[List.getElem_range]
       rw[hoff hg1 hlt]
       exact ho2 i (by omega)
      rw[List.getElem_append_right (by simp;omega),List.getElem_append_right (by omega)]
      simp only[List.length_range,ho1]
      exact⟨hor _ (by omega),(hos _ (by omega) (by omega)).2⟩
     ·rw[List.getElem?_append_left (by simpa using hq)]
      exact hrange q hq
     ·simp only[sel,hget k hk,Option.bind_some]
     ·rw[hgo k hk]
      exact (hos k (by omega) hk).1.symm
     obtain⟨k,hk,rfl⟩:=hrefs q hq
     rw[hgo k hk]
     simp
    rotate_left
    ·
     cases hv.1 with | d _ _ hn=>
     cases hn with | nil=>
     have hfree:obf st.ob (st.ob.length+objs.length)=none:=by simp[obf]
     obtain⟨m1,k1⟩:=hR.mem.empty (st.ob.length+objs.length) e sz hfree h0
     refine⟨_,hrun,?_⟩
     have hne :∀q,q<objs.length->q≠st.ob.length+objs.length:=fun q hq=>by omega
     have hob :∀q,q<objs.length->obf st.ob q=ofL obs q:=fun q hq=>by
      have:=(ho2 q (by omega)).1
      simp only[obf,this,ofL]
      simp[show q<obs.length by omega]
     have hidx:(List.range objs.length++[st.ob.length+objs.length]).Nodup:=by
      rw[List.nodup_append]
      exact⟨List.nodup_range,by simp,fun a ha b hb=>by simp at ha hb;omega⟩
     have hmem:=m1.restrict (objs:=obs++[.row e sz [] .no]) hidx (by simp[ho1]) (fun i hi hi'=>by
      simp only[X11,List.length_range,X22] at hi
      by_cases hlt:i<objs.length
      ·rw[List.getElem_append_left (by simpa using hlt),List.getElem_append_left (by omega)]
       simp only[List.getElem_range]
       rw[AK _ _ _ _ (hne i hlt)]
       exact ho2 i (by omega)
      have:i=objs.length:=by omega
      subst this
      rw[List.getElem_append_right (by simp),List.getElem_append_right (by omega)]
      simp only[List.length_range,Nat.sub_self,List.getElem_cons_zero,ho1]
      exact⟨upd_same _ _ _,rfl⟩)
     have hofl:ofL (obs++[.row e sz [] .no]) objs.length=some (.row e sz [] .no):=by
      simp only[ofL]
      rw[List.getElem?_append_right (by omega)]
      simp[ho1]
     refine⟨S1,_,hmem,⟨fun b o hS=>⟨m1.sS b o hS,m1.kS b o hS⟩,fun r hr=>?_,fun r hr=>?_⟩,?_,?_⟩
     ·have hlt:r<objs.length:=by
       refine Nat.lt_of_not_le fun hge=>hr ?_
       simp[ofL,hge]
      obtain⟨q1,q2⟩:=htr r hlt (by simp[ofL,hlt])
      have e1:sel (List.range objs.length++[st.ob.length+objs.length]) (upd φ1 (st.ob.length+objs.length) none) r=φ1 r:=by
       simp only[sel]
       rw[List.getElem?_append_left (by simpa using hlt)]
       simp[hlt,AK _ _ _ _ (hne r hlt)]
      have e2:ofL (obs++[.row e sz [] .no]) r=obf st.ob r:=by
       rw[hob r hlt]
       simp only[ofL]
       rw[List.getElem?_append_left (by omega)]
      unfold RefOK at q2 ⊢
      rw[e1,e2]
      exact q2
     ·have hlt:r<objs.length:=by
       refine Nat.lt_of_not_le fun hge=>hr ?_
       simp[ofL,hge]
      simp only[ofL]
      rw[List.getElem?_append_left (by omega)]
      simp[ho1,hlt]
     ·refine .own _ 0 _ 0 0 none rfl rfl (fun e' sz' es' f' hx=>?_) fun cs hx=>?_
      ·rw[hofl] at hx
       simp only[X24,OB.row.injEq] at hx
       obtain⟨rfl,rfl,rfl,rfl⟩:=hx
       refine⟨Nat.le_refl _,fun _=>.inl ⟨?_,rfl,_,rfl⟩⟩
       simp only[sel]
       rw[List.getElem?_append_right (by simp)]
       simp
      rw[hofl] at hx;simp at hx
     intro q hq
     have:q=objs.length:=by simpa[AV.refs] using hq
     rw[this,hofl]
     simp
    obtain⟨x',nw,wr,S',hK,m1,k1,hx1,hw1,hr⟩:=Rz hR.mem (FrzExt.refl _) hv.1 hv.2 h1
    refine⟨u,hrun,?_⟩
    rcases hr with ⟨rfl,r1,r2,r3⟩|⟨r,rfl,hge,hwr,hxx,hxr⟩
    ·obtain⟨rfl,rfl⟩:=hK
     have hO :∀r,r<objs.length->ofL obs r=Au (obf st.ob) wr r:=fun r hr=>by
      rw[hoff hw1 hr]
      have:=(ho2 r (by omega)).1
      simp only[obf,this,ofL]
      simp[show r<obs.length by omega]
     refine fin m1 (fun r hr=>hoff hw1 hr) List.nodup_range (by simp[ho1]) (fun i hi hi'=>?_) hrange k1.k (NN r1 r3 hrange hO) fun r hr=>?_
     ·simp only[List.length_range] at hi
      simp only[List.getElem_range]
      rw[hoff hw1 hi]
      exact ho2 i hi'
     rw[hO r (r3 r hr),hoff hw1 (r3 r hr)]
     exact r2 r hr
    simp only[A1] at hK
    obtain⟨o,ho,hK⟩:=hK
    obtain⟨hcc,rfl,rfl⟩:BW o=true/\x'=res/\obs++[o]=objs':=by
     cases o with
     | box cs=>simpa only[Jo] using hK
     | row e sz es f=>exact (AI _ _).1 hK
     | map k e es=>exact⟨rfl,hK⟩
     | amap=>exact hK.elim
     | gone=>exact hK.elim
    have hsel:sel (List.range objs.length++[r]) φ1 objs.length=φ1 r:=by
     simp only[sel]
     rw[List.getElem?_append_right (by simp)]
     simp
    have hofl:ofL (obs++[o]) objs.length=some o:=by
     simp only[ofL]
     rw[List.getElem?_append_right (by omega)]
     simp[ho1]
    have ho':Au (obf st.ob) wr r=some o:=(En _ _ _ hwr).trans ho
    have hidx:(List.range objs.length++[r]).Nodup:=by
     rw[List.nodup_append]
     exact⟨List.nodup_range,by simp,fun a ha b hb=>by simp at ha hb;omega⟩
    refine fin m1 (fun r hr=>hoff hw1 hr) hidx (by simp[ho1]) (fun i hi hi'=>?_) (fun q hq=>?_) k1.k ?_ fun q hq=>?_
    ·simp only[X11,List.length_range,X22] at hi
     by_cases hlt:i<objs.length
     ·rw[List.getElem_append_left (by simpa using hlt),List.getElem_append_left (by omega)]
      simp only[List.getElem_range]
      rw[hoff hw1 hlt]
      exact ho2 i (by omega)
     have:i=objs.length:=by omega
     subst this
     rw[List.getElem_append_right (by simp),List.getElem_append_right (by omega)]
     simp only[List.length_range,Nat.sub_self,List.getElem_cons_zero,ho1]
     exact⟨ho',hcc⟩
    ·rw[List.getElem?_append_left (by simpa using hq)]
     exact hrange q hq
    ·exact hxx _ _ hsel (hofl.trans ho'.symm)
    rw[hxr q hq,hofl]
    simp
   ·
    rename_i hno
    obtain⟨xs',wr,S',hK,m1,k1,hx1,hw1,hr⟩:=Px hR.mem (FrzExt.refl _) h3 h1
    obtain⟨rfl,rfl⟩:=hK
    have hlen :∀{α β:Type} {l:List α} {k:List β} {R:α->β->Prop},All2 R l k->l.length=k.length:=by
     intro α β l k R h
     induction h with
     | nil=>rfl
     | cons _ _ ih=>simp[ih]
    have hget :∀{l:List AV} {k:List Value} {R:AV->Value->Prop},All2 R l k->∀i (hi:i<l.length),∃v,k[i]?=some v/\R l[i] v:=by
     intro l k R h
     induction h with
     | nil=>intro i hi;simp at hi
     | cons h _ ih=>
      intro i hi
      cases i with
      | zero=>exact⟨_,rfl,h⟩
      | succ i=>exact ih i (by simpa using hi)
    have hus:us.length≠1:=by
     intro he
     have:=hlen h3
     match asz,this with
     | [x],_=>exact hno x rfl
     | [],h=>simp at h;omega
     | _::_::_,h=>simp at h;omega
    have hval:Zb us=.tuple us.toArray:=by
     match us,hus with
     | [],_=>rfl
     | [_],h=>exact absurd rfl h
     | _::_::_,_=>rfl
    rw[hval] at hrun
    refine⟨_,hrun,?_⟩
    have hO :∀r,r<objs.length->ofL obs r=Au (obf st.ob) wr r:=fun r hr=>by
     rw[hoff hw1 hr]
     have:=(ho2 r (by omega)).1
     simp only[obf,this,ofL]
     simp[show r<obs.length by omega]
    refine fin m1 (fun r hr=>hoff hw1 hr) List.nodup_range (by simp[ho1]) (fun i hi hi'=>?_) hrange k1.k ?_ fun r hr'=>?_
    ·simp only[List.length_range] at hi
     simp only[List.getElem_range]
     rw[hoff hw1 hi]
     exact ho2 i hi'
    ·refine .tup xs' _ (fun i=>us.getD i undef) (by simp[hlen hr]) (fun i hi=>?_) fun i hi=>?_
     ·obtain⟨v,q1,_⟩:=hget hr i hi
      simp[q1]
     obtain⟨v,q1,q2,q3,q4⟩:=hget hr i hi
     simp only[List.getD_eq_getElem?_getD,q1,Option.getD_some]
     exact NN q2 q4 hrange hO
    obtain⟨c,hc1,hc2⟩:=AV.refs_mem' xs' r (by simpa[AV.refs] using hr')
    obtain⟨j,hj,rfl⟩:=List.getElem_of_mem hc1
    obtain⟨v,q1,q2,q3,q4⟩:=hget hr j hj
    rw[hO r (q4 r hc2),hoff hw1 (q4 r hc2)]
    exact q3 r hc2
def U3 (φ:Nat->Option (Nat×Rp))(ob:Nat->Option OB):Nat->Prop:=fun b=>∃r c,ob r≠none/\φ r=some (b,c)
theorem Mem.here {E:Env}{w:World}{S:Sc}{φ:Nat->Option (Nat×Rp)}{ob:Nat->Option OB}(m:Mem E w S φ ob) :
  Mem ⟨w,S,U3 φ ob,E.wl,E.gb,m.glob fun _ h=>h⟩ w S φ ob:=
 ⟨m.obj,m.inj,m.men,fun _ _ h=>h,fun _ _ _=>rfl,m.bS,fun _ _ h _ _=>h,fun _ _ _=>rfl,Nat.le_refl _,fun r b c h1 h2=>⟨(m.ow r b c h1 h2).1,.inr ⟨r,c,h1,h2⟩⟩,⟨rfl,rfl,rfl,.inr (Nat.le_refl _)⟩⟩
theorem Mem.trans {E:Env}{w w':World}{S S':Sc}{φ φ':Nat->Option (Nat×Rp)}{ob ob':Nat->Option OB}(m:Mem E w S φ ob){hg:GlobOK E.wl E.gb (U3 φ ob) S w}(m':Mem ⟨w,S,U3 φ ob,E.wl,E.gb,hg⟩ w' S' φ' ob') :
  Mem E w' S' φ' ob':=by
 have hnb :∀b,b<E.w0.heap.size->¬ E.PB b->¬ U3 φ ob b:=by
  rintro b h1 h2 ⟨r,c,h3,h4⟩
  rcases (m.ow r b c h3 h4).2 with h | h
  ·omega
  exact h2 h
 refine⟨m'.obj,m'.inj,m'.men,fun b o h=>m'.sS b o (m.sS b o h),fun b o h=>(m'.kS b o (m.sS b o h)).trans (m.kS b o h),m'.bS,fun b o h h1 h2=>?_,fun b h1 h2=>?_,Nat.le_trans m.sz m'.sz,fun r b c h1 h2=>?_,?_⟩
 ·exact m.nS b o (m'.nS b o h (Nat.lt_of_lt_of_le h1 m.sz) (hnb b h1 h2)) h1 h2
 ·exact (m'.fr b (Nat.lt_of_lt_of_le h1 m.sz) (hnb b h1 h2)).trans (m.fr b h1 h2)
 ·obtain⟨h3,h4⟩:=m'.ow r b c h1 h2
  refine⟨h3,?_⟩
  rcases h4 with h4 | ⟨r',c',h5,h6⟩
  ·exact .inl (Nat.le_trans m.sz h4)
  exact (m.ow r' b c' h5 h6).2
 obtain⟨a1,a2,a3,a4⟩:=m.os
 obtain⟨b1,b2,b3,b4⟩:=m'.os
 refine⟨b1.trans a1,b2.trans a2,b3.trans a3,?_⟩
 rcases a4 with a4 | a4
 ·exact .inl a4
 rcases b4 with b4 | b4
 ·exact .inl b4
 exact .inr (Nat.le_trans a4 b4)
theorem Hy :∀{ob:List (Option OB)} {n:Nat},II ob n=true->∀r,n<=r->ob.getD r none=none
 | [],_,_,r,_=>by simp
 | _::l,n+1,h,r+1,hr=>by simpa using Hy (ob:=l) (n:=n) (by simpa[II] using h) r (by omega)
 | none::l,0,h,0,_=>by simp
 | none::l,0,h,r+1,_=>by simpa using Hy (ob:=l) (n:=0) (by simpa[II] using h) r (by omega)
 | some _::_,0,h,_,_=>by simp[II] at h
theorem All2.getA {R:AV->Value->Prop} :∀{l:List AV} {k:List Value},All2 R l k->l.length=k.length/\∀i (hi:i<l.length),R l[i] (k.getD i undef)
 | _,_,.nil=>⟨rfl,fun i hi=>by simp at hi⟩
 | _,_,.cons h t=>by
  obtain⟨a,b⟩:=All2.getA t
  refine⟨by simp[a],fun i hi=>?_⟩
  cases i with
  | zero=>simpa using h
  | succ i=>simpa using b i (by simpa using hi)
theorem Wa {wl : WL}{cx : Cx}(hT : TabOk P cx.T)(hC : QG wl P cx)(hD : Tu wl P cx){f : FuncId}{fn : Func}(hf : P.funcs[f]? = some fn)(hname : fn.name ≠ "runtime.NumGoroutine")
  {args:List AV} {ob:List (Option OB)} {K:AV->List (Option OB)->Prop} (h:bB cx fn args ob K):InlFn wl P f args ob K:=by
 obtain⟨hno,h⟩:=h
 cases hb:fn.body with
 | none=>simp[hb] at h
 | some c=>
  simp only[hb] at h
  refine⟨⟨fn,hf,hname,by rw[hb];rfl⟩,fun E hE w S φ vals hargs m=>?_⟩
  subst hE
  obtain⟨hlen,hargs⟩:=hargs.getA
  have hsz:vals.size=args.length:=by simpa using hlen.symm
  have m0:=m.here
  refine calls_of_wp hf hb (Pg (E:=⟨w,S,U3 φ (fun r=>ob.getD r none),E.wl,E.gb,m.glob fun _ h=>h⟩) (tr:=⟨cx.np,φ,fun r=>ob.getD r none⟩) hT hC hD rfl c h ⟨S,φ,⟨?_,fun i hi=>?_,rfl,m0⟩,fun r hr h0=>⟨h0,.refl _ _ _⟩⟩ ?_)
  ·simp[hsz]
  ·simp only[List.getElem_append]
   split
   ·rename_i hlt
    have:=hargs i hlt
    have e:(vals++Array.replicate (fn.ntmps-vals.size) undef).getD i undef=vals.toList.getD i undef:=by
     have:i<vals.size:=by omega
     simp[Array.getElem?_append_left this]
    rw[e];exact this
   rw[List.getElem_replicate]
   exact⟨.dead _,GW _⟩
  intro e st a w' hl hR
  obtain⟨S1,φ1,hR,htr⟩:=hR
  have hne :∀id,e≠.exit id:=fun id he=>by subst he;exact hl
  have hl':Ut cx st fn.results.toList (fun asz=>(match asz with
   | [a]=>K a st.ob
   | asz=>K (.tup asz) st.ob)):=by
   cases e with
   | exit id=>exact absurd rfl (hne id)
   | normal=>exact hl
   | ret=>exact hl
  obtain⟨asz,us,h1,h2,h3⟩:=Jc hT hR hl'
  have hrun:=PT h2
  have hrep :∃r,K r st.ob/\RepA S1 w' φ1 (obf st.ob) r (Zb us)/\Closed (obf st.ob) r:=by
   have tupl :∀{asz:List AV} {us:List Value},All2 (fun x v=>RepA S1 w' φ1 (obf st.ob) x v/\Closed (obf st.ob) x) asz us->RepA S1 w' φ1 (obf st.ob) (.tup asz) (.tuple us.toArray)/\Closed (obf st.ob) (.tup asz):=by
    intro asz us h
    obtain⟨q1,q2⟩:=h.getA
    refine⟨.tup asz us.toArray (fun i=>us.getD i undef) (by simp[q1]) (fun i hi=>?_) fun i hi=>(q2 i hi).1,fun r hr=>?_⟩
    ·have:i<us.length:=by omega
     simp[this]
    obtain⟨c,hc1,hc2⟩:=AV.refs_mem' asz r (by simpa[AV.refs] using hr)
    obtain⟨j,hj,rfl⟩:=List.getElem_of_mem hc1
    exact (q2 j hj).2 r hc2
   split at h1
   ·cases h3 with | cons hv hrest=>
    cases hrest
    exact⟨_,h1,hv.1,hv.2⟩
   rename_i hn
   obtain⟨q1,q2⟩:=tupl h3
   refine⟨_,h1,?_,q2⟩
   match asz,us,h3,hn with
   | [],[],_,_=>exact q1
   | [_],[_],_,hn=>exact absurd rfl (hn _)
   | _::_::_,_::_::_,_,_=>exact q1
  obtain⟨r,g1,g2,g3⟩:=hrep
  have hK:Kept w S φ (fun r=>ob.getD r none) w' S1 φ1 (obf st.ob):=by
   refine⟨fun b o hS=>⟨hR.mem.sS b o hS,hR.mem.kS b o hS⟩,fun r hr=>?_,fun r hr=>?_⟩
   ·refine (htr r (Nat.lt_of_not_le fun hge=>hr (Hy hno r hge)) hr).2
   exact (htr r (Nat.lt_of_not_le fun hge=>hr (Hy hno r hge)) hr).1
  have:a.defers=[]/\∃v,(results fn a.tmps).run P w'=.ok v w'/\∃v',Ending.returned v=.returned v'/\∃S' φ' r ob',K r ob'/\Mem E w' S' φ' (fun r=>ob'.getD r none)/\Kept w S φ (fun r=>ob.getD r none) w' S' φ' (fun r=>ob'.getD r none)/\
    RepA S' w' φ' (fun r=>ob'.getD r none) r v'/\Closed (fun r=>ob'.getD r none) r:=
   ⟨hR.df,_,hrun,_,rfl,S1,φ1,r,st.ob,g1,m.trans hR.mem,hK,g2,g3⟩
  cases e with
  | exit id=>exact absurd rfl (hne id)
  | normal=>exact this
  | ret=>exact this
end
end Go.AX
end
section
namespace Go.AX
def Agree (rs:List Nat)(ob ob':List (Option OB)):Prop:=∀r∈rs,ob'[r]?=ob[r]?
theorem Agree.mono {rs rs':List Nat}{ob ob':List (Option OB)}(h:Agree rs ob ob')(hs :∀r∈rs',r∈rs):Agree rs' ob ob':=fun r hr=>h r (hs r hr)
def WIn (rs:List Nat)(w:W):Prop:=∀q∈w,q.1∈rs
def Loc (rs:List Nat)(ob:List (Option OB))(Q:AV->W->Prop)(F:List (Option OB)->(AV->W->Prop)->Prop):Prop:=
 ∀K,F ob K->∃v w,K v w/\Q v w/\∀ob',Agree rs ob ob'->∀K':AV->W->Prop,K' v w->F ob' K'
theorem bR (r:Nat) :∀(l:List Nat) (n:Nat) {F N:Nat->Prop},LN.go r l n F N->(∃k,F k/\∀F' N':Nat->Prop,F' k->LN.go r l n F' N')\/(∃k,N k/\∀F' N':Nat->Prop,N' k->LN.go r l n F' N')
 | [],n,F,N,h=>.inr ⟨n,h,fun F' N' h'=>h'⟩
 | x::l,n,F,N,h=>by
  simp only[LN.go] at h ⊢
  cases hb:Nat.beq x r with
  | true=>simp only[hb] at h ⊢;exact .inl ⟨n,h,fun F' N' h'=>h'⟩
  | false=>
   simp only[hb] at h ⊢
   rcases bR r l (n+1) h with ⟨k,h1,h2⟩|⟨k,h1,h2⟩
   ·exact .inl ⟨k,h1,h2⟩
   exact .inr ⟨k,h1,h2⟩
section
variable {rs:List Nat} {ob:List (Option OB)} {Q:AV->W->Prop} {F G:List (Option OB)->(AV->W->Prop)->Prop}
theorem Loc.ret {v:AV}{w:W}(h:Q v w):Loc rs ob Q fun _ K=>K v w:=fun _ k=>⟨v,w,k,h,fun _ _ _ k=>k⟩
theorem Loc.no:Loc rs ob Q fun _ _=>False:=fun _ h=>h.elim
theorem Loc.and {P:Prop}(h:P->Loc rs ob Q F):Loc rs ob Q fun ob K=>P/\F ob K:=fun K ⟨p,k⟩=>
 let ⟨v,w,a,b,c⟩:=h p K k
 ⟨v,w,a,b,fun ob' ha K' k=>⟨p,c ob' ha K' k⟩⟩
theorem Loc.ex {α:Type}{F:α->List (Option OB)->(AV->W->Prop)->Prop}(h :∀x,Loc rs ob Q (F x)):Loc rs ob Q fun ob K=>∃x,F x ob K:=fun K ⟨x,k⟩=>
 let ⟨v,w,a,b,c⟩:=h x K k
 ⟨v,w,a,b,fun ob' ha K' k=>⟨x,c ob' ha K' k⟩⟩
theorem Loc.or (h:Loc rs ob Q F)(g:Loc rs ob Q G):Loc rs ob Q fun ob K=>F ob K\/G ob K:=fun K k=>by
 rcases k with k | k
 ·obtain⟨v,w,a,b,c⟩:=h K k
  exact⟨v,w,a,b,fun ob' ha K' k=>.inl (c ob' ha K' k)⟩
 obtain⟨v,w,a,b,c⟩:=g K k
 exact⟨v,w,a,b,fun ob' ha K' k=>.inr (c ob' ha K' k)⟩
theorem Loc.only {c:Bool}(h:c=true->Loc rs ob Q F):Loc rs ob Q fun ob K=>AU c (F ob K):=by
 cases c with
 | true=>exact h rfl
 | false=>exact Loc.no
theorem Loc.noO {r:Nat}(hr:r∈rs)(h:Loc rs ob Q F):Loc rs ob Q fun ob K=>noO ob r (F ob K):=fun K k=>by
 have k:=(E6 _ _ _).1 k
 obtain⟨v,w,a,b,c⟩:=h K k.2
 exact⟨v,w,a,b,fun ob' ha K' q=>(E6 _ _ _).2 ⟨(ha r hr).trans k.1,c ob' ha K' q⟩⟩
theorem Loc.find {r:Nat}{F:OB->List (Option OB)->(AV->W->Prop)->Prop}(hr:r∈rs)(h :∀o,Loc rs ob Q (F o)):Loc rs ob Q fun ob K=>DT ob r fun o=>F o ob K:=fun K k=>by
 obtain⟨o,ho,k⟩:=(A1 _ _ _).1 k
 obtain⟨v,w,a,b,c⟩:=h o K k
 refine⟨v,w,a,b,fun ob' ha K' q=>(A1 _ _ _).2 ⟨o,?_,c ob' ha K' q⟩⟩
 rw[List.getD_eq_getElem?_getD] at ho ⊢
 rw[ha r hr];exact ho
theorem aA :∀{cs:List AV} {G:List D->W->List (Option OB)->(AV->W->Prop)->Prop},(∀r∈AV.refs.refsL cs,r∈rs)->(∀l w,WIn rs w->Loc rs ob Q (G l w))->Loc rs ob Q fun ob K=>toD.toDs ob cs fun l w=>G l w ob K
 | [],G,_,h=>h [] [] nofun
 | c::cs,G,hs,h=>by
  have ih:=fun G h=>@aA cs G (fun r hr=>hs r (by simp[AV.refs.refsL,hr])) h
  cases c with
  | d x=>cases x with
   | agg=>exact Loc.no
   | _=>exact ih (fun l w=>G (_::l) w) fun l w hw=>h _ _ hw
  | own r n=>
   have hr:r∈rs:=hs r (by simp[AV.refs.refsL,AV.refs])
   refine Loc.find hr fun o=>?_
   cases o with
   | row e sz es f=>exact Loc.and fun _=>ih (fun l w=>G (.lst sz es::l) ((r,.row e sz es .yes)::w)) fun l w hw=>h _ _ fun q hq=>(List.mem_cons.1 hq).elim (fun e=>e ▸ hr) (hw q)
   | _=>exact Loc.no
  | fn f caps=>cases caps with
   | nil=>exact ih (fun l w=>G (_::l) w) fun l w hw=>h _ _ hw
   | cons=>exact Loc.no
  | _=>exact Loc.no
theorem TS {a:AV}{G:D->W->List (Option OB)->(AV->W->Prop)->Prop}(hs :∀r∈a.refs,r∈rs)(h :∀x w,WIn rs w->Loc rs ob Q (G x w)):Loc rs ob Q fun ob K=>toD ob a fun x w=>G x w ob K:=by
 cases a with
 | d x=>simp only[toD,Fj];exact h _ _ nofun
 | own r n=>
  have hr:r∈rs:=hs r (by simp[AV.refs])
  simp only[toD]
  refine Loc.find hr fun o=>?_
  cases o with
  | row e sz es f=>exact Loc.and fun _=>h _ _ fun q hq=>by simp only[X14] at hq;exact hq ▸ hr
  | _=>exact Loc.no
 | agg cs=>exact aA (G:=fun l w=>G (.agg l) w) hs fun l w hw=>h _ _ hw
 | _=>exact Loc.no
theorem XT {sz:Nat} :∀{ps:List (Nat×AV)} {i:Nat} {G:List D->W->List (Option OB)->(AV->W->Prop)->Prop},(∀r∈AV.refs.refsL (ps.map (·.2)),r∈rs)->(∀l w,WIn rs w->Loc rs ob Q (G l w))->
  Loc rs ob Q fun ob K=>E4.elems ob sz i ps fun l w=>G l w ob K
 | [],i,G,_,h=>h [] [] nofun
 | (j,v)::ps,i,G,hs,h=>by
  simp only[E4.elems]
  split
  ·exact TS (G:=fun x w ob K=>AU _ (E4.elems ob sz (i+1) ps fun l w'=>G (x::l) (w++w') ob K)) (fun r hr=>hs r (by simp[AV.refs.refsL,hr])) fun x w hw=>Loc.only fun _=>
    XT (fun r hr=>hs r (by simp only[List.map_cons,AV.refs.refsL,X23];exact .inr hr)) fun l w' hw'=>h _ _ fun q hq=>(X23.1 hq).elim (hw q) (hw' q)
  exact Loc.no
theorem dq {place:Nat->Option (Nat×Nat)} :∀{ps:List (Nat×AV)} {cs:List AV} {G:List AV->List (Option OB)->(AV->W->Prop)->Prop},(∀l,Loc rs ob Q (G l))->Loc rs ob Q fun ob K=>KU.go place ps cs fun l=>G l ob K
 | [],cs,G,h=>h cs
 | (i,v)::ps,cs,G,h=>by
  simp only[KU.go]
  split
  ·simp only[Gx,G1]
   exact Loc.ex fun l=>Loc.and fun _=>Loc.only fun _=>Loc.and fun _=>dq h
  exact Loc.no
theorem Zt {o:Option AV}{dflt:Int}{G:Int->List (Option OB)->(AV->W->Prop)->Prop}(h :∀i,Loc rs ob Q (G i)):Loc rs ob Q fun ob K=>EH o dflt fun i=>G i ob K:=by
 unfold EH
 split
 ·exact h _
 ·exact h _
 exact Loc.no
theorem Y7 {y:AV}{G:Nat->List D->List (Option OB)->(AV->W->Prop)->Prop}(hs :∀r∈y.refs,r∈rs)(h :∀n l,Loc rs ob Q (G n l)):Loc rs ob Q fun ob K=>Ta ob y fun n l=>G n l ob K:=by
 have hr :∀{r},y.refs=[r]->r∈rs:=fun e=>hs _ (e ▸ List.mem_singleton_self _)
 cases y with
 | d x=>cases x with
  | lst=>exact h _ _
  | nil=>exact h _ _
  | _=>exact Loc.no
 | own r n=>
  simp only[Ta,U2]
  refine Loc.find (hr rfl) fun o=>?_
  cases o with
  | row=>exact Loc.and fun _=>h _ _
  | _=>exact Loc.no
 | osl r a n m=>
  simp only[Ta,U2]
  refine Loc.find (hr rfl) fun o=>?_
  cases o with
  | row=>exact Loc.and fun _=>Loc.ex fun _=>Loc.and fun _=>h _ _
  | _=>exact Loc.no
 | _=>exact Loc.no
theorem bX {y:AV}{k sz:Nat}{frz:FZ}{G:FZ->List (Option OB)->(AV->W->Prop)->Prop}(hs :∀r∈y.refs,r∈rs)(h :∀f,Loc rs ob Q (G f)):Loc rs ob Q fun ob K=>Zd ob y k sz frz fun f=>G f ob K:=by
 unfold Zd
 intro K hk
 split at hk
 ·obtain⟨v,w,a,b,c⟩:=h _ K hk
  exact⟨v,w,a,b,c⟩
 split at hk
 ·rename_i q n
  have e :∀ob',Agree rs ob ob'->ob'.getD q none=ob.getD q none:=fun ob' ha=>by
   rw[List.getD_eq_getElem?_getD,List.getD_eq_getElem?_getD,ha q (hs q (by simp[AV.refs]))]
  split at hk
  ·rename_i e0 sz' ys i j q' m hq
   split at hk
   ·rename_i hb
    obtain⟨v,w,a,b,c⟩:=h _ K hk.2
    exact⟨v,w,a,b,fun ob' ha K k=>by simp only[e ob' ha,hq,hb];exact⟨hk.1,c ob' ha K k⟩⟩
   rename_i hb
   obtain⟨v,w,a,b,c⟩:=h _ K hk
   exact⟨v,w,a,b,fun ob' ha K k=>by simp only[e ob' ha,hq,hb];exact c ob' ha K k⟩
  rename_i hn
  obtain⟨v,w,a,b,c⟩:=h _ K hk
  refine⟨v,w,a,b,fun ob' ha K k=>?_⟩
  dsimp only
  rw[e ob' ha]
  split
  ·rename_i hq
   exact absurd hq (hn _ _ _ _ _ _ _)
  exact c ob' ha K k
 obtain⟨v,w,a,b,c⟩:=h _ K hk
 exact⟨v,w,a,b,c⟩
theorem RA {r:Nat}{ρ:List Nat}{G:Nat->List Nat->List (Option OB)->(AV->W->Prop)->Prop}(hr:r∈rs)(hρ :∀x∈ρ,x∈rs)(h :∀i ρ',(∀x∈ρ',x∈rs)->Loc rs ob Q (G i ρ')):Loc rs ob Q fun ob K=>LN.refK r ρ fun i ρ=>G i ρ ob K:=fun K k=>by
 rcases bR r ρ 0 k with ⟨i,k,g⟩|⟨i,k,g⟩
 ·obtain⟨v,w,a,b,c⟩:=h i ρ hρ K k
  exact⟨v,w,a,b,fun ob' ha K' k=>g _ _ (c ob' ha K' k)⟩
 obtain⟨v,w,a,b,c⟩:=h i (ρ++[r]) (fun x hx=>(X23.1 hx).elim (hρ x) fun e=>X14.1 e ▸ hr) K k
 exact⟨v,w,a,b,fun ob' ha K' k=>g _ _ (c ob' ha K' k)⟩
theorem XW :∀{caps:List AV} {ρ:List Nat} {G:List AV->List Nat->List (Option OB)->(AV->W->Prop)->Prop},(∀r∈AV.refs.refsL caps,r∈rs)->(∀x∈ρ,x∈rs)->(∀c ρ',(∀x∈ρ',x∈rs)->Loc rs ob Q (G c ρ'))->
  Loc rs ob Q fun ob K=>LN.capsK caps ρ fun c ρ=>G c ρ ob K
 | [],ρ,G,_,hρ,h=>h _ _ hρ
 | c::caps,ρ,G,hs,hρ,h=>by
  cases c with
  | ref r off=>exact RA (G:=fun i ρ ob K=>LN.capsK caps ρ fun c ρ=>G (.ref i off::c) ρ ob K) (hs r (by simp[AV.refs.refsL,AV.refs])) hρ fun i ρ hρ=>XW (fun r hr=>hs r (by simp[AV.refs.refsL,hr])) hρ fun c ρ hρ=>h _ _ hρ
  | _=>exact Loc.no
theorem cC {keep:Bool}{a:AV}{ρ:List Nat}{G:AV->List Nat->W->List (Option OB)->(AV->W->Prop)->Prop}(hs :∀r∈a.refs,r∈rs)(hρ :∀x∈ρ,x∈rs)(h :∀a ρ w,(∀x∈ρ,x∈rs)->WIn rs w->Loc rs ob Q (G a ρ w)) :
  Loc rs ob Q fun ob K=>LN keep ob a ρ fun a ρ w=>G a ρ w ob K:=by
 have one :∀{r},a.refs=[r]->r∈rs:=fun e=>hs _ (e ▸ List.mem_singleton_self _)
 cases a with
 | d x=>
  simp only[LN,Fj]
  split
  ·exact h _ _ _ hρ nofun
  exact h _ _ _ hρ nofun
 | own r n=>cases keep with
  | true=>exact RA (G:=fun i ρ=>G (.own i n) ρ []) (one rfl) hρ fun i ρ hρ=>h _ _ _ hρ nofun
  | false=>exact TS (G:=fun x w=>G (.d x) ρ w) hs fun x w hw=>h _ _ _ hρ hw
 | agg cs=>exact TS (G:=fun x w=>G (.d x) ρ w) hs fun x w hw=>h _ _ _ hρ hw
 | ref r off=>exact RA (G:=fun i ρ=>G (.ref i off) ρ []) (one rfl) hρ fun i ρ hρ=>h _ _ _ hρ nofun
 | mp r=>exact RA (G:=fun i ρ=>G (.mp i) ρ []) (one rfl) hρ fun i ρ hρ=>h _ _ _ hρ nofun
 | it f r=>exact RA (G:=fun i ρ=>G (.it f i) ρ []) (one rfl) hρ fun i ρ hρ=>h _ _ _ hρ nofun
 | eref cs=>exact h _ _ _ hρ nofun
 | fn f caps=>exact XW (G:=fun c ρ=>G (.fn f c) ρ []) hs hρ fun c ρ hρ=>h _ _ _ hρ nofun
 | _=>exact Loc.no
theorem XJ :∀{keep:List Bool} {asz:List AV} {ρ:List Nat} {G:List AV->List Nat->W->List (Option OB)->(AV->W->Prop)->Prop},(∀r∈AV.refs.refsL asz,r∈rs)->(∀x∈ρ,x∈rs)->(∀a ρ w,(∀x∈ρ,x∈rs)->WIn rs w->Loc rs ob Q (G a ρ w))->
  Loc rs ob Q fun ob K=>RY keep ob asz ρ fun a ρ w=>G a ρ w ob K
 | _,[],ρ,G,_,hρ,h=>h _ _ _ hρ nofun
 | keep,a::asz,ρ,G,hs,hρ,h=>cC (G:=fun a ρ w ob K=>RY keep.tail ob asz ρ fun asz ρ w'=>G (a::asz) ρ (w++w') ob K) (fun r hr=>hs r (by simp[AV.refs.refsL,hr])) hρ fun a ρ w hρ hw=>
  XJ (fun r hr=>hs r (by simp[AV.refs.refsL,hr])) hρ fun asz ρ w' hρ hw'=>h _ _ _ hρ fun q hq=>(X23.1 hq).elim (hw q) (hw' q)
theorem Xe :∀{ρ:List Nat} {G:List OB->List (Option OB)->(AV->W->Prop)->Prop},(∀x∈ρ,x∈rs)->(∀l,Loc rs ob Q (G l))->Loc rs ob Q fun ob K=>Hq ob ρ fun l=>G l ob K
 | [],G,_,h=>h []
 | r::ρ,G,hρ,h=>Loc.find (hρ r (by simp)) fun o=>by
  have ih:=fun o:OB=>@Xe ρ (fun l=>G (o::l)) (fun x hx=>hρ x (by simp[hx])) fun l=>h _
  cases o with
  | box cs=>simp only[Jo];exact Loc.and fun _=>ih _
  | row e sz es f=>exact Loc.only fun _=>ih _
  | map k e es=>exact ih _
  | _=>exact Loc.no
theorem XM {self:Nat}(hr:self∈rs) :∀{ρ:List Nat} {objs:List OB} {G:W->List (Option OB)->(AV->W->Prop)->Prop},(∀x∈ρ,x∈rs)->(∀w,WIn rs w->Loc rs ob Q (G w))->Loc rs ob Q fun ob K=>KG ρ self objs fun w=>G w ob K
 | [],[],G,_,h=>h [] nofun
 | [],[o],G,_,h=>by
  simp only[KG]
  split
  ·exact h _ fun q hq=>by simp only[X14] at hq;exact hq ▸ hr
  exact Loc.no
 | r::ρ,o::os,G,hρ,h=>by
  simp only[KG]
  split
  ·exact XM hr (G:=fun w=>G ((r,o)::w)) (fun x hx=>hρ x (by simp[hx])) fun w hw=>h _ fun q hq=>(List.mem_cons.1 hq).elim (fun e=>e ▸ hρ r (by simp)) (hw q)
  exact Loc.no
 | [],_::_::_,G,_,_=>Loc.no
 | _::_,[],G,_,_=>Loc.no
theorem aN {cx:Cx}{f:FuncId}{self:Nat}{args:List AV}(hr:self∈rs)(hs :∀r∈AV.refs.refsL args,r∈rs)(hQ :∀v w,WIn rs w->Q v w):Loc rs ob Q fun ob K=>Vb cx f self args ob K:=by
 simp only[V1]
 unfold LO
 refine XJ (G:=fun args' ρ w ob K=>AU (LO.apartW w ρ) (Hq ob ρ fun objs=>∃res objs',cx.C f args' objs res objs'/\(objs'.length=ρ.length\/ob[self]?=some none)/\ND ρ self res fun res'=>KG ρ self objs' fun w'=>K res' (w++w'))) hs nofun fun asz ρ w hρ hw=>Loc.only fun _=>?_
 refine Xe hρ fun objs=>Loc.ex fun res=>Loc.ex fun objs'=>Loc.and fun _=>?_
 intro K k
 obtain⟨h1,k⟩:=k
 obtain⟨v,w,a,b,c⟩:=(show Loc rs ob Q (fun ob K=>ND ρ self res fun res'=>KG ρ self objs' fun w'=>K res' (w++w')) by
  simp only[Nz]
  exact Loc.ex fun a=>Loc.and fun _=>XM hr (G:=fun w' ob K=>K a (w++w')) hρ fun w' hw'=>Loc.ret (hQ _ _ fun q hq=>(X23.1 hq).elim (hw q) (hw' q))) K k
 exact⟨v,w,a,b,fun ob' ha K' k=>⟨h1.imp id fun e=>(ha self hr).trans e,c ob' ha K' k⟩⟩
theorem Xi {T:TT}{ty self:Nat}{x:AV}(hr:self∈rs)(hQ :∀v w,WIn rs w->Q v w):Loc rs ob Q fun ob K=>VG T ty self x ob K:=by
 unfold VG
 split
 ·split
  ·rename_i e _
   intro K k
   split at k
   ·rename_i hs
    rw[AI] at k
    exact⟨_,_,k.2,hQ _ _ fun q hq=>by simp only[X14] at hq;exact hq ▸ hr,fun ob' ha K' q=>by simp only[ha _ hr,hs];exact (AI _ _).2 ⟨k.1,q⟩⟩
   rename_i hs
   refine⟨_,_,k,hQ _ _ nofun,fun ob' ha K' q=>?_⟩
   dsimp only
   rw[ha _ hr]
   split
   ·rename_i h2;exact absurd h2 hs
   exact q
  exact Loc.no
 simp only[Bn];exact Loc.ret (hQ _ _ nofun)
end
end Go.AX
end
section
namespace Go.AX
def PC (np:Nat)(o:Oper)(av:Operand->AV):List Nat:=
 (match V5 o.op with
  | true=>[np+o.dst.getD 0]
  | false=>[])++(Q0 o.op).flatMap fun x=>(av x).refs
theorem bc {np:Nat}{o:Oper}{av:Operand->AV}{x:Operand}(hx:x∈o.op.operands.toList)(hf:Q0 o.op=o.op.operands.toList) :∀r∈(av x).refs,r∈PC np o av:=fun _ hr=>
 List.mem_append_right _ (List.mem_flatMap.2 ⟨x,hf ▸ hx,hr⟩)
theorem ay {np:Nat}{o:Oper}{av:Operand->AV}(h:V5 o.op=true):np+o.dst.getD 0∈PC np o av:=by
 unfold PC;rw[h];simp
theorem LY {av av':Operand->AV} :∀(l:List (Nat×Operand)),(∀x∈l.map (·.2),av' x=av x)->(l.map fun (i,x)=>(i,av' x))=l.map fun (i,x)=>(i,av x)
 | [],_=>rfl
 | (i,x)::l,h=>by
  simp only[List.map_cons,List.mem_cons,forall_eq_or_imp] at h ⊢
  rw[h.1,LY l h.2]
theorem Sv {asz:List AV}{r:Nat}:r∈AV.refs.refsL asz ↔∃a∈asz,r∈a.refs:=by
 induction asz with
 | nil=>simp[AV.refs.refsL]
 | cons a l ih=>simp[AV.refs.refsL,ih]
theorem Qi {av:Operand->AV}{r:Nat} :∀{l:List (Nat×Operand)},r∈AV.refs.refsL ((l.map fun (i,x)=>(i,av x)).map (·.2))->∃x∈l.map (·.2),r∈(av x).refs
 | [],h=>by simp[AV.refs.refsL] at h
 | (i,x)::l,h=>by
  simp only[List.map_cons,AV.refs.refsL,X23] at h
  rcases h with h | h
  ·exact⟨x,by simp,h⟩
  obtain⟨y,hy,h⟩:=Qi h
  exact⟨y,by simp only[List.map_cons,List.mem_cons];exact .inr hy,h⟩
theorem Om {T:TT}{t:Nat}{a:AV} :∀r∈(HS T t a).refs,r∈a.refs:=by
 intro r hr
 unfold HS at hr
 split at hr
 ·split at hr
  ·simp[AV.refs] at hr
  exact hr
 exact hr
theorem Pi {T:TT}{av av':Operand->AV} :∀(l:List Operand) (ts:List Nat),(∀x∈l,av' x=av x)->Gl T av' l ts=Gl T av l ts
 | [],ts,_=>by simp[Gl]
 | x::xs,[],h=>by
  simp only[Gl]
  exact List.map_congr_left h
 | x::xs,t::ts,h=>by
  simp only[Gl]
  rw[h x (by simp),Pi xs ts fun y hy=>h y (by simp[hy])]
theorem R7 {T:TT}{av:Operand->AV}{a:AV} :∀{l:List Operand} {ts:List Nat},a∈Gl T av l ts->∃x∈l,∀r∈a.refs,r∈(av x).refs
 | [],ts,h=>by simp[Gl] at h
 | x::xs,[],h=>by
  simp only[Gl] at h
  obtain⟨y,hy,rfl⟩:=List.mem_map.1 h
  exact⟨y,hy,fun r hr=>hr⟩
 | x::xs,t::ts,h=>by
  simp only[Gl,List.mem_cons] at h
  rcases h with rfl | h
  ·exact⟨x,by simp,Om⟩
  obtain⟨y,hy,hr⟩:=R7 h
  exact⟨y,by simp[hy],hr⟩
def YK (np:Nat)(o:Oper)(av:Operand->AV)(v:AV)(w:W):Prop:=
 (V5 o.op=false->w=[])/\(aK o.op=true->v.isOsl=true->w=[])/\(∀x,apX o.op=some x->WIn ((np+o.dst.getD 0)::(av x).refs) w)/\WIn (PC np o av) w
theorem Qe {av av':Operand->AV}{q:Option Operand}(h :∀x∈q.toArray.toList,av' x=av x):q.map av'=q.map av:=by
 cases q with
 | none=>rfl
 | some y=>simp only[Option.map_some];rw[h y (by simp)]
theorem YQ {cx:Cx}{o:Oper}{av av':Operand->AV}{ob:List (Option OB)}{K:AV->W->Prop}(h :∀x∈o.op.operands.toList,av' x=av x):opK cx o av' ob K=opK cx o av ob K:=by
 obtain⟨dst,op,ty,pos,after,guard⟩:=o
 cases op with
 | build t ps=>simp only[opK,LY (av:=av) (av':=av') ps.toList fun x hx=>h x (by simpa[Op.operands] using hx)]
 | buildSlice t l ps=>simp only[opK,LY (av:=av) (av':=av') ps.toList fun x hx=>h x (by simpa[Op.operands] using hx)]
 | makeFunc f first caps=>cases f<;>simp only[opK,List.map_congr_left (f:=av') (g:=av) fun x hx=>h x (by simp only[Op.operands,Array.toList_append,X23];exact .inr hx)]
 | makeMap t r=>cases r<;>rfl
 | slice t x lo hi mx=>
  have e:=h x (by simp[Op.operands])
  have e1:=Qe (av:=av) (av':=av') (q:=lo) fun y hy=>h y (by simp only[Op.operands,Array.toList_append,X23];exact .inl (.inl (.inr hy)))
  have e2:=Qe (av:=av) (av':=av') (q:=hi) fun y hy=>h y (by simp only[Op.operands,Array.toList_append,X23];exact .inl (.inr hy))
  cases mx with
  | none=>simp only[opK,e,e1,e2]
  | some m=>simp only[opK,e,e1,e2,h m (by simp[Op.operands])]
 | call c=>
  obtain⟨callee,args,ats⟩:=c
  have ha :∀x∈args.toList,av' x=av x:=fun x hx=>h x (by cases callee<;>simp[Op.operands,Call.operands,hx])
  cases callee with
  | value x=>simp only[opK,h x (by simp[Op.operands,Call.operands]),Pi (av:=av) (av':=av') _ _ ha]
  | builtin b=>
   cases b<;>simp only[opK]
   all_goals (split<;>first | rfl | (simp_all;done))
  | invoke=>rfl
 | move x=>cases x<;>simp[Op.operands] at h<;>simp[opK,h]
 | assign x=>cases x<;>simp[Op.operands] at h<;>simp[opK,h]
 | _=>simp[Op.operands] at h;simp[opK,h]
theorem WIn.one {rs:List Nat}{r:Nat}{o:OB}(h:r∈rs):WIn rs [(r,o)]:=fun q hq=>by simp only[X14] at hq;exact hq ▸ h
theorem WIn.app {rs:List Nat}{w w':W}(h:WIn rs w)(k:WIn rs w'):WIn rs (w++w'):=fun q hq=>(X23.1 hq).elim (h q) (k q)
theorem RB :∀(cs:List D) (K:List AV->Prop),QH (fun c K=>K (AV.d c)) cs K↔K (cs.map .d)
 | [],K=>Iff.rfl
 | c::cs,K=>RB cs fun l=>K (.d c::l)
theorem cr {cx:Cx}{o:Oper}{av:Operand->AV}{ob:List (Option OB)}:Loc (PC cx.np o av) ob (YK cx.np o av) fun ob K=>opK cx o av ob K:=by
 have q0 :∀v,YK cx.np o av v []:=fun v=>⟨fun _=>rfl,fun _ _=>rfl,fun _ _=>nofun,nofun⟩
 have qa:V5 o.op=true->∀v w,(aK o.op=true->v.isOsl=true->w=[])->(∀x,apX o.op=some x->WIn ((cx.np+o.dst.getD 0)::(av x).refs) w)->WIn (PC cx.np o av) w->YK cx.np o av v w:=fun a v w c d h=>⟨fun e=>by simp[a] at e,c,d,h⟩
 have qw:V5 o.op=true->aK o.op=false->apX o.op=none->∀v w,WIn (PC cx.np o av) w->YK cx.np o av v w:=fun a c b v w h=>qa a v w (fun e=>by simp[c] at e) (fun x e=>by simp[b] at e) h
 have self:V5 o.op=true->cx.np+o.dst.getD 0∈PC cx.np o av:=ay
 have opd:Q0 o.op=o.op.operands.toList->∀x∈o.op.operands.toList,∀r∈(av x).refs,r∈PC cx.np o av:=fun e x hx r hr=>bc hx e r hr
 have opn :∀z t,(∀r∈(av z).refs,r∈PC cx.np o av)->∀r∈(HS cx.T t (av z)).refs,r∈PC cx.np o av:=fun z t h r hr=>h r (Om r hr)
 generalize PC cx.np o av=rs at *
 generalize YK cx.np o av=Q at *
 obtain⟨dst,op,ty,pos,after,guard⟩:=o
 have dA :∀r∈AV.dead.refs,r∈rs:=nofun
 cases op
 case move x=>cases x with
  | const v=>exact Xi (self rfl) (qw rfl rfl rfl)
  | _=>simp only[opK,Bn];exact Loc.ret (q0 _)
 case assign x=>cases x with
  | const v=>exact Xi (self rfl) (qw rfl rfl rfl)
  | _=>simp only[opK,Bn];exact Loc.ret (q0 _)
 case makeFunc f first caps=>
  cases f<;>simp only[opK]
  repeat' first | exact Loc.no | exact Loc.ret (q0 _)|split
 case' pick c a b=>simp only[opK,ZN,Bn];generalize av c=C;generalize av a=A;generalize av b=B
 case' alloc t=>have hs:=self rfl;replace qw:=qw rfl rfl rfl;simp only[opK]
 case' box t x=>have hs:=self rfl;replace qw:=qw rfl rfl rfl;simp only[opK,Gx]
 case' build t ps=>simp only[opK,KU,Gy]
 case' buildSlice t l ps=>
  have hs:=self rfl
  replace qw:=qw rfl rfl rfl
  have hE :∀r∈AV.refs.refsL ((ps.toList.map fun (i,x)=>(i,av x)).map (·.2)),r∈rs:=fun r hr=>by
   obtain⟨x,hx,hr⟩:=Qi hr
   exact opd rfl x (by simpa[Op.operands] using hx) r hr
  simp only[opK,If,E4,Lm,Jv]
  generalize (ps.toList.map fun (i,x)=>(i,av x))=p at *
 case' load t x=>
  have hA:=opd rfl x (by simp[Op.operands])
  simp only[opK,X1,Va,OA,Bn,G0,GX,Gy]
  generalize av x=A at *
 case' store t a x=>
  replace qw:=qw rfl rfl rfl
  have hX:=opn x t (opd rfl x (by simp[Op.operands]))
  have hA:=opd rfl a (by simp[Op.operands])
  simp only[opK,PQ,Rj,G6,G7,G8,Gx,G1,Fj]
  generalize HS cx.T t (av x)=X at *
  generalize av a=A at *
 case' nilCheck x=>simp only[opK]
 case' binOp op t x y yt=>simp only[opK,Xp,Xj];generalize av x=X;generalize av y=Y
 case' unOp op t x=>simp only[opK,unK]
 case' convert s d x=>
  have hX:=opd rfl x (by simp[Op.operands])
  simp only[opK,Xz]
  generalize av x=X at *
 case' fieldAddr t x i=>
  have hA:=opd rfl x (by simp[Op.operands])
  simp only[opK,OD,G0,GX]
  generalize av x=A at *
 case' field t x i=>simp only[opK,UU,JS,XZ,RB,Bn,G0,GX,Gy];generalize av x=A
 case' indexAddr t x y=>
  have hA:=opd rfl x (by simp[Op.operands])
  simp only[opK,J3,Jf,Io]
  generalize av x=A at *
  generalize av y=Y
 case' index t x y=>simp only[opK,T0,JS,RB,Bn];generalize av x=X;generalize av y=Y
 case' makeMap t r=>have hs:=self rfl;replace qw:=qw rfl rfl rfl;cases r<;>simp only[opK]
 case' lookup t x y ok=>
  have hA:=opd rfl x (by simp[Op.operands])
  simp only[opK,Xm,ZH,Xq]
  generalize av x=A at *
  generalize av y=Y
 case' mapUpdate t m k v=>
  replace qw:=qw rfl rfl rfl
  have hA:=opd rfl m (by simp[Op.operands])
  have hX:=opd rfl v (by simp[Op.operands])
  simp only[opK,NZ,Lp,NX]
  generalize av m=A at *
  generalize av v=X at *
  generalize av k=Y
 case' insert t m k v=>
  replace qw:=qw rfl rfl rfl
  have hA:=opd rfl m (by simp[Op.operands])
  have hX:=opd rfl v (by simp[Op.operands])
  simp only[opK,NZ,Lp,NX]
  generalize av m=A at *
  generalize av v=X at *
  generalize av k=Y
 case' slice t x lo hi mx=>
  have hs:=self rfl
  have qs :∀v w,v.isOsl=false->WIn rs w->Q v w:=fun v w c=>qa rfl v w (fun _ e=>by simp[c] at e) nofun
  have hx:=opd rfl x (by simp[Op.operands])
  have hA:=opn x t hx
  cases mx<;>simp only[opK,Wb,Uf,On,Wn,RJ,QW]
 case' slice.none=>generalize HS cx.T _ (av _)=A at *
 case' slice.some=>replace hA:=hx;generalize av _=A at *
 case' makeSlice t n c=>have hs:=self rfl;replace qw:=qw rfl rfl rfl;simp only[opK,Xs];generalize av n=X;generalize av c=Y
 case' extract x i=>simp only[opK,Bn]
 case' call c=>
  obtain⟨callee,args,ats⟩:=c
  have ha :∀z∈args.toList,∀r∈(av z).refs,r∈rs:=fun z hz=>opd rfl z (by cases callee<;>simp[Op.operands,Call.operands,hz])
  cases callee
 case' call.value x=>
  have hs :∀caps,(∀r∈AV.refs.refsL caps,r∈rs)->∀r∈AV.refs.refsL (Gl cx.T av args.toList ats.toList++caps),r∈rs:=fun caps hc r hr=>by
   obtain⟨a,h,hr⟩:=Sv.1 hr
   rcases X23.1 h with h | h
   ·obtain⟨y,hy,h2⟩:=R7 h
    exact ha y hy r (h2 r hr)
   exact hc r (Sv.2 ⟨a,h,hr⟩)
  have hx:=opd rfl x (by simp[Op.operands,Call.operands])
  simp only[opK,fnK]
  generalize av x=X at *
  have hc :∀f caps,(∀r∈AV.refs.refsL caps,r∈rs)->Loc rs ob Q fun ob K=>Vb cx f (cx.np+dst.getD 0) (Gl cx.T av args.toList ats.toList++caps) ob K:=fun f caps h=>aN (self rfl) (hs caps h) (qw rfl rfl rfl)
 case' call.builtin b=>cases b
 case' call.builtin.append=>
  have hs:=self rfl
  simp only[opK]
  split
  ·rename_i x y t u hxy _
   have hx:=ha x (by rw[hxy];simp)
   have hX:=opn y t (ha y (by rw[hxy];simp))
   have hnx :∀r∈(HS cx.T t (av x)).refs,r∈(av x).refs:=Om
   have q :∀v w,WIn ((cx.np+dst.getD 0)::(av x).refs) w->Q v w:=fun v w h=>qa rfl v w nofun (fun z hz=>by
    simp only[apX,hxy,X24] at hz
    exact hz ▸ h) fun q hq=>(List.mem_cons.1 (h q hq)).elim (fun e=>e ▸ hs) (hx _)
   have hA :∀r∈(HS cx.T t (av x)).refs,r∈rs:=fun r hr=>hx r (hnx r hr)
   simp only[QP,Xb,XV,Xr]
   generalize HS cx.T t (av x)=A at *
   generalize HS cx.T t (av y)=X at *
   generalize av y=Y at *
   repeat' first
    | exact Loc.no
    | refine Loc.only fun _=>?_
    | refine Loc.noO hs ?_
    | refine Loc.find (hA _ (by simp[AV.refs])) fun _=>?_
    | refine Loc.and fun _=>?_
    | refine Loc.ex fun _=>?_
    | refine Y7 hX fun _ _=>?_
    | refine bX hX fun _=>?_
    | split
    | exact Loc.ret (q _ _ (WIn.one (List.mem_cons_self ..)))
    | exact Loc.ret (q _ _ (WIn.one (X19 _ (hnx _ (by simp[AV.refs])))))
    | exact Loc.ret (q _ _ (WIn.app (w:=[_]) (WIn.one (X19 _ (hnx _ (by simp[AV.refs])))) (WIn.one (List.mem_cons_self ..))))
  exact Loc.no
 case' call.builtin.len=>simp only[opK,Yq]
 case' call.builtin.cap=>simp only[opK,aP]
 case' call.builtin.max=>simp only[opK,aL]
 case' call.builtin.min=>simp only[opK,bA]
 case' call.builtin.clear=>
  replace qw:=qw rfl rfl rfl
  simp only[opK]
  split
  rotate_left
  ·exact Loc.no
  rename_i x t hx _
  have hA:=ha x (by rw[hx];simp)
  simp only[Uo]
  generalize av x=A at *
 case' call.builtin.copy=>
  replace qw:=qw rfl rfl rfl
  simp only[opK]
  split
  rotate_left
  ·exact Loc.no
  rename_i x y t u hx _
  have hA:=ha x (by rw[hx];simp)
  have hX:=ha y (by rw[hx];simp)
  simp only[X0,VS]
  generalize av x=A at *
  generalize av y=X at *
 all_goals repeat' first
  | exact Loc.no
  | refine Loc.only fun _=>?_
  | refine Loc.noO hs ?_
  | refine Loc.find (hA _ (by simp[AV.refs])) fun _=>?_
  | refine Loc.and fun _=>?_
  | refine Loc.ex fun _=>?_
  | refine Loc.or ?_ ?_
  | refine TS hX fun _ _ _=>?_
  | refine TS hA fun _ _ _=>?_
  | refine TS (by simpa[AV.refs.refsL] using hE) fun _ _ _=>?_
  | refine XT hE fun _ _ _=>?_
  | refine Y7 hX fun _ _=>?_
  | refine Zt fun _=>?_
  | refine dq fun _=>?_
  | exact hc _ _ (by first | exact hx | simp[AV.refs.refsL])
  | exact Loc.ret (q0 _)
  | exact Loc.ret (qw _ _ (WIn.one hs))
  | exact Loc.ret (qw _ _ (WIn.one (hA _ (by simp[AV.refs]))))
  | exact Loc.ret (qw _ _ (WIn.app (by assumption) (WIn.one (hA _ (by simp[AV.refs])))))
  | exact Loc.ret (qw _ _ (WIn.app (by assumption) (WIn.one hs)))
  | exact Loc.ret (qs _ _ rfl (by assumption))
  | exact Loc.ret (qs _ _ rfl (WIn.app (w:=[_]) (WIn.one (hA _ (by simp[AV.refs]))) (WIn.one hs)))
  | split
  | (cases ‹Bool›<;>simp only[KN])
theorem cY {cx:Cx}{o:Oper}{av:Operand->AV}{ob:List (Option OB)}{K:AV->W->Prop}(h:opK cx o av ob K) :
  ∃v w,K v w/\YK cx.np o av v w/\∀av' ob',(∀x∈o.op.operands.toList,av' x=av x)->Agree (PC cx.np o av) ob ob'->∀K':AV->W->Prop,K' v w->opK cx o av' ob' K':=by
 obtain⟨v,w,a,b,c⟩:=cr K h
 exact⟨v,w,a,b,fun av' ob' ha hb K' k=>YQ ha ▸ c ob' hb K' k⟩
def app (dst:Option Nat)(v:AV)(w:W)(st:ASt):ASt:=⟨KP st.tm dst v,wrL st.ob w⟩
def Look (ops:Array Oper)(o:Oper)(st st':ASt):Prop:=∀t∈o.looksAt ops,st'.tm.getD t .dead=st.tm.getD t .dead
structure StpE (cx:Cx)(ops:Array Oper)(o:Oper)(st:ASt)(e:List Nat×List Nat)(v:AV)(w:W):Prop where
 ee:e.1=QV cx.np o st.tm
 wr :∀q∈w,q.1∈e.2
 sub :∀q∈w,q.1∈e.1
 go :∀st',Look ops o st st'->Agree e.1 st.ob st'.ob->∀K:ASt->Prop,K (app o.dst v w st')->MG cx ops o st' K
theorem V3 {ops:Array Oper}{o:Oper}{st st':ASt}(h:Look ops o st st') :∀x∈o.op.operands.toList,evO st'.tm x=evO st.tm x:=by
 intro x hx
 cases x with
 | tmp t=>exact h t (List.mem_append_left _ (List.mem_filterMap.2 ⟨.tmp t,hx,rfl⟩))
 | _=>rfl
theorem Ks {α β:Type}{f g:α->List β} :∀{l:List α},(∀x∈l,f x=g x)->l.flatMap f=l.flatMap g
 | [],_=>rfl
 | x::l,h=>by
  simp only[List.flatMap_cons]
  rw[h x (by simp),Ks fun y hy=>h y (by simp[hy])]
theorem aH {np:Nat}{ops:Array Oper}{o:Oper}{st st':ASt}(h:Look ops o st st'):QV np o st'.tm=QV np o st.tm:=by
 unfold QV
 congr 1
 refine Ks fun x hx=>?_
 have hm:x∈o.op.operands.toList:=by
  unfold Q0 at hx
  split at hx
  all_goals first
   | (simp at hx;done)
   | exact hx
 rw[V3 h x hm]
theorem Look.trans {ops:Array Oper}{o:Oper}{a b c:ASt}(h:Look ops o a b)(k:Look ops o b c):Look ops o a c:=fun t ht=>(k t ht).trans (h t ht)
theorem Agree.trans {rs:List Nat}{a b c:List (Option OB)}(h:Agree rs a b)(k:Agree rs b c):Agree rs a c:=fun t ht=>(k t ht).trans (h t ht)
theorem Look.symm {ops:Array Oper}{o:Oper}{a b:ASt}(h:Look ops o a b):Look ops o b a:=fun t ht=>(h t ht).symm
theorem Agree.symm {rs:List Nat}{a b:List (Option OB)}(h:Agree rs a b):Agree rs b a:=fun t ht=>(h t ht).symm
theorem StpE.move {cx:Cx}{ops:Array Oper}{o:Oper}{st st2:ASt}{e:List Nat×List Nat}{v:AV}{w:W}(h:StpE cx ops o st e v w)(hl:Look ops o st st2)(ha:Agree e.1 st.ob st2.ob):StpE cx ops o st2 e v w:=
 ⟨by rw[aH hl];exact h.ee,h.wr,h.sub,fun st' hl' ha' K hK=>h.go st' (hl.trans hl') (ha.trans ha') K hK⟩
theorem YB {tm:List AV}{t:Nat}{a:AV}(h:tm.getD t .dead=a):tm.set t a=tm:=by
 by_cases ht:t<tm.length
 ·have:tm[t]=a:=by simpa[ht] using h
  rw[<- this];exact List.set_getElem_self ht
 exact List.set_eq_of_length_le (by omega)
theorem ZQ {ops:Array Oper}{o:Oper}{tm:List AV}{yes no:List AV->Prop}(h:Jp ops o tm yes no) :
  (yes tm/\∀tm' yes' no',(∀t∈o.looksAt ops,tm'.getD t .dead=tm.getD t .dead)->yes' tm'->Jp ops o tm' yes' no') \/
  (no tm/\∀tm' yes' no',(∀t∈o.looksAt ops,tm'.getD t .dead=tm.getD t .dead)->no' tm'->Jp ops o tm' yes' no'):=by
 unfold Jp at h ⊢
 cases hg:o.guard with
 | none=>simp only[hg] at h ⊢;exact .inl ⟨h,fun _ _ _ _ hy=>hy⟩
 | some g=>
  obtain⟨j,want⟩:=g
  simp only[hg] at h ⊢
  cases hd:(ops[j]?).bind (·.dst) with
  | none=>simp only[hd] at h
  | some t=>
   simp only[hd] at h ⊢
   have hm:t∈o.looksAt ops:=List.mem_append_right _ (by rw[hg];simp[hd])
   split at h
   ·rename_i b hb
    have hs :∀{tm':List AV},tm'.getD t .dead=tm.getD t .dead->tm'.set t (.b b)=tm':=fun hq=>YB (hq.trans hb)
    have hs0:=hs (tm':=tm) rfl
    cases b<;>cases want<;>simp only[KN,GK] at h<;>rw[hs0] at h
    ·exact .inl ⟨h,fun tm' yes' no' hl hy=>by rw[hl t hm,hb];simp only[KN,GK];rw[hs (hl t hm)];exact hy⟩
    ·exact .inr ⟨h,fun tm' yes' no' hl hy=>by rw[hl t hm,hb];simp only[KN,GK];rw[hs (hl t hm)];exact hy⟩
    ·exact .inr ⟨h,fun tm' yes' no' hl hy=>by rw[hl t hm,hb];simp only[KN,GK];rw[hs (hl t hm)];exact hy⟩
    exact .inl ⟨h,fun tm' yes' no' hl hy=>by rw[hl t hm,hb];simp only[KN,GK];rw[hs (hl t hm)];exact hy⟩
   ·rename_i vs hb
    exact .inr ⟨h,fun tm' yes' no' hl hy=>by rw[hl t hm,hb];exact hy⟩
   exact h.elim
theorem aj {cx:Cx}{ops:Array Oper}{o:Oper}{st:ASt}{K:ASt->Prop}(h:MG cx ops o st K) :
  ∃v w,K (app o.dst v w st)/\StpE cx ops o st (QV cx.np o st.tm,Zi cx.np o st.tm (app o.dst v w st).tm) v w:=by
 obtain⟨tm,ob⟩:=st
 simp only[MG] at h
 rcases ZQ h with ⟨h,hg⟩|⟨h,hg⟩
 ·obtain⟨v,w,h1,⟨h2,hos,hap,h3⟩,h4⟩:=cY h
  rw[HT,QT] at h1
  refine⟨v,w,h1,rfl,fun q hq=>?_,h3,fun st' hl ha K hK=>?_⟩
  ·simp only[Zi]
   split
   ·rename_i hs
    split
    ·rename_i d hd
     split
     ·rename_i e
      have:=hos hs (by
       simp only[app,hd,KP,List.getD_eq_getElem?_getD] at e
       by_cases hlt:d<tm.length
       ·rw[List.getElem?_set_self (by simpa using hlt)] at e
        exact e
       rw[List.getElem?_eq_none (by simpa using hlt)] at e
       simp[AV.isOsl] at e)
      rw[this] at hq;simp at hq
     exact h3 q hq
    exact h3 q hq
   split
   ·split
    ·rename_i x hx;exact hap x hx q hq
    exact h3 q hq
   rename_i e;rw[h2 e] at hq;simp at hq
  obtain⟨tm',ob'⟩:=st'
  simp only[MG]
  refine hg tm' _ _ hl (h4 _ ob' (V3 hl) ha _ ?_)
  rw[HT,QT]
  exact hK
 rw[HT] at h
 refine⟨.tup [],[],h,rfl,fun q hq=>by simp at hq,fun q hq=>by simp at hq,fun st' hl ha K hK=>?_⟩
 obtain⟨tm',ob'⟩:=st'
 simp only[MG]
 refine hg tm' _ _ hl ?_
 rw[HT]
 exact hK
def Run (cx:Cx)(ops:Array Oper)(f:Nat->List Nat×List Nat)(fin:ASt):List Nat->ASt->Prop
 | [],st=>st=fin
 | i::l,st=>∃o v w,ops[i]?=some o/\StpE cx ops o st (f i) v w/\Run cx ops f fin l (app o.dst v w st)
structure Free (ops:Array Oper)(f:Nat->List Nat×List Nat)(j i:Nat):Prop where
 apart :∀a b,ops[j]?=some a->ops[i]?=some b->a.apart ops b=true
 conf:(∀r∈(f j).2,r∉(f i).1)/\∀r∈(f j).1,r∉(f i).2
theorem TP {tm:List AV}{d:Option Nat}{v:AV}{t:Nat}(h :∀x,d=some x->x≠t):(KP tm d v).getD t .dead=tm.getD t .dead:=by
 cases d with
 | none=>rfl
 | some x=>
  simp only[KP,List.getD_eq_getElem?_getD]
  rw[List.getElem?_set_ne (h x rfl)]
theorem PN {r:Nat} :∀(w:W) (ob:List (Option OB)),(∀q∈w,q.1≠r)->(wrL ob w)[r]?=ob[r]?
 | [],ob,_=>rfl
 | (x,o)::w,ob,h=>by
  simp only[wrL]
  rw[PN w _ fun q hq=>h q (by simp[hq]),List.getElem?_set_ne (h (x,o) (by simp))]
theorem NQ {r:Nat}{o:Option OB} :∀(w:W) (ob:List (Option OB)),(∀q∈w,q.1≠r)->wrL (ob.set r o) w=(wrL ob w).set r o
 | [],ob,_=>rfl
 | (x,y)::w,ob,h=>by
  simp only[wrL]
  rw[List.set_comm _ _ (Ne.symm (h (x,y) (by simp))),NQ w _ fun q hq=>h q (by simp[hq])]
theorem Vy :∀(w w':W) (ob:List (Option OB)),(∀q∈w,∀q'∈w',q.1≠q'.1)->wrL (wrL ob w) w'=wrL (wrL ob w') w
 | [],w',ob,_=>rfl
 | (x,y)::w,w',ob,h=>by
  simp only[wrL]
  rw[Vy w w' _ fun q hq q' hq'=>h q (by simp[hq]) q' hq',NQ w' ob fun q' hq'=>Ne.symm (h (x,y) (by simp) q' hq')]
theorem YM (tm:List AV){x y:Option Nat}(v u:AV)(h :∀d,x=some d->y≠some d):KP (KP tm x v) y u=KP (KP tm y u) x v:=by
 cases x with
 | none=>rfl
 | some d=>
  cases y with
  | none=>rfl
  | some e=>
   have hne:d≠e:=fun he=>h d rfl (he ▸ rfl)
   simp only[KP]
   rw[List.set_comm _ _ hne]
theorem WI {cx:Cx}{ops:Array Oper}{f:Nat->List Nat×List Nat}{fin:ASt}{i:Nat}{post:List Nat} :∀(pre:List Nat) {st:ASt},(∀j∈pre,Free ops f j i)->Run cx ops f fin (pre++i::post) st->
  ∃o v w,ops[i]?=some o/\StpE cx ops o st (f i) v w/\Run cx ops f fin (pre++post) (app o.dst v w st)
 | [],st,_,h=>h
 | j::pre,st,hf,h=>by
  obtain⟨a,va,wa,ha,sa,h⟩:=h
  obtain⟨b,vb,wb,hb,sb,h⟩:=WI pre (fun k hk=>hf k (by simp[hk])) h
  have hF:=hf j (by simp)
  obtain⟨p1,p2,p3⟩:=Oper.apart_spec (hF.apart a b ha hb)
  have lb:Look ops b st (app a.dst va wa st):=fun t ht=>TP fun x hx e=>p1 x hx (e ▸ ht)
  have ab:Agree (f i).1 st.ob (app a.dst va wa st).ob:=fun r hr=>PN wa _ fun q hq e=>hF.conf.1 q.1 (sa.wr q hq) (e ▸ hr)
  have sb0:StpE cx ops b st (f i) vb wb:=sb.move lb.symm ab.symm
  have la:Look ops a st (app b.dst vb wb st):=fun t ht=>TP fun x hx e=>p3 x hx (e ▸ ht)
  have aa:Agree (f j).1 st.ob (app b.dst vb wb st).ob:=fun r hr=>PN wb _ fun q hq e=>hF.conf.2 r hr (e ▸ sb.wr q hq)
  have sa':StpE cx ops a (app b.dst vb wb st) (f j) va wa:=sa.move la aa
  refine⟨b,vb,wb,hb,sb0,a,va,wa,ha,sa',?_⟩
  have he:app a.dst va wa (app b.dst vb wb st)=app b.dst vb wb (app a.dst va wa st):=by
   simp only[app]
   rw[YM st.tm va vb p2,Vy wa wb]
   intro q hq q' hq' e
   exact hF.conf.1 q.1 (sa.wr q hq) (e ▸ sb.sub q' hq')
  rw[he]
  exact h
end Go.AX
end
section
namespace Go.AX
theorem VU :∀(l:List Oper) (done:List Oper) (acc:List (List Nat)),acc.length=done.length->
  (∀p (hp:p<done.length),(CU done[p]).all (fun j=>Nat.blt j p)=true->∀k∈acc.getD (acc.length-1-p) [],k∈CU done[p] \/∃q∈CU done[p],k∈acc.getD (acc.length-1-q) [])->
  (IX l acc).length=(done++l).length/\∀p (hp:p<(done++l).length),(CU (done++l)[p]).all (fun j=>Nat.blt j p)=true->∀k∈(IX l acc).getD ((IX l acc).length-1-p) [],k∈CU (done++l)[p] \/∃q∈CU (done++l)[p],k∈(IX l acc).getD ((IX l acc).length-1-q) []
 | [],done,acc,hlen,h=>by simpa[IX,hlen] using h
 | o::l,done,acc,hlen,h=>by
  simp only[IX]
  have:=VU l (done++[o]) (((CU o).flatMap fun j=>j::acc.getD (acc.length-1-j) [])::acc) (by simp[hlen]) ?_
  ·simpa using this
  intro p hp hb k hk
  simp only[X11,X12,X13,Nat.zero_add] at hp
  have old :∀q,q<acc.length->(((CU o).flatMap fun j=>j::acc.getD (acc.length-1-j) [])::acc).getD ((((CU o).flatMap fun j=>j::acc.getD (acc.length-1-j) [])::acc).length-1-q) []=acc.getD (acc.length-1-q) []:=by
   intro q hq
   have:(((CU o).flatMap fun j=>j::acc.getD (acc.length-1-j) [])::acc).length-1-q=(acc.length-1-q)+1:=by simp only[X12];omega
   rw[this,List.getD_cons_succ]
  rcases Nat.lt_or_ge p done.length with hlt | hge
  ·rw[old p (by omega)] at hk
   have hb':(CU done[p]).all (fun j=>Nat.blt j p)=true:=by simpa[List.getElem_append_left hlt] using hb
   rw[List.getElem_append_left hlt]
   rcases h p hlt hb' k hk with h1 | ⟨q,h1,h2⟩
   ·exact .inl h1
   refine .inr ⟨q,h1,?_⟩
   have:=List.all_eq_true.1 hb' q h1
   have hqp:q<p:=by simpa using this
   rw[old q (by omega)]
   exact h2
  have hpe:p=done.length:=by omega
  subst hpe
  have hge':(done++[o])[done.length]'(by simp)=o:=by simp
  rw[hge'] at hb ⊢
  have:(((CU o).flatMap fun j=>j::acc.getD (acc.length-1-j) [])::acc).length-1-done.length=0:=by simp only[X12];omega
  rw[this,List.getD_cons_zero] at hk
  obtain⟨q,hq,hk⟩:=List.mem_flatMap.1 hk
  rcases List.mem_cons.1 hk with rfl | hk
  ·exact .inl hq
  refine .inr ⟨q,hq,?_⟩
  have:=List.all_eq_true.1 hb q hq
  have hqp:q<done.length:=by simpa using this
  rw[old q (by omega)]
  exact hk
theorem Ju {ops:Array Oper}{p:Nat}{o:Oper}(ho:ops[p]?=some o)(hb:(CU o).all (fun j=>Nat.blt j p)=true){k:Nat}(hk:k∈GZ ops p) :
  k∈CU o \/∃q∈CU o,k∈GZ ops q:=by
 obtain⟨h1,h2⟩:=VU ops.toList [] [] rfl (fun p hp=>by simp at hp)
 obtain⟨hp,hpo⟩:=Array.getElem?_eq_some_iff.1 ho
 simp only[List.nil_append,Array.length_toList] at h1 h2
 have:=h2 p (by simpa using hp)
 simp only[Array.getElem_toList,hpo,h1] at this
 unfold GZ at hk ⊢
 exact this hb k hk
theorem S7 {ops:Array Oper}{f:Nat->List Nat×List Nat}{i:Nat}{fp wr:List Nat} :∀(n j:Nat),F9.conf ops i fp wr j ((List.range' j n).map f)=true->
  ∀k,j<=k->k<j+n->i∈GZ ops k\/((∀r∈wr,r∉(f k).1)/\∀r∈fp,r∉(f k).2)
 | 0,j,_,k,h1,h2=>by omega
 | n+1,j,h,k,h1,h2=>by
  simp only[List.range'_succ,List.map_cons,F9.conf] at h
  rw[show f j=((f j).1,(f j).2) from rfl] at h
  simp only[X27,Bool.or_eq_true] at h
  rcases Nat.eq_or_lt_of_le h1 with rfl | hlt
  ·rcases h.1 with h0 | h0
   ·exact .inl (by simpa using h0)
   refine .inr ⟨fun r hr=>?_,fun r hr=>?_⟩
   ·have:=List.all_eq_true.1 h0.1 r hr
    simpa using this
   have:=List.all_eq_true.1 h0.2 r hr
   simpa using this
  exact S7 n (j+1) h.2 k (by omega) (by omega)
theorem Ky {ops:Array Oper}{f:Nat->List Nat×List Nat} :∀(n i:Nat),F9 ops i ((List.range' i n).map f)=true->
  ∀j k,i<=j->j<k->k<i+n->j∈GZ ops k\/((∀r∈(f j).2,r∉(f k).1)/\∀r∈(f j).1,r∉(f k).2)
 | 0,i,_,j,k,h1,h2,h3=>by omega
 | n+1,i,h,j,k,h1,h2,h3=>by
  simp only[List.range'_succ,List.map_cons] at h
  rw[show f i=((f i).1,(f i).2) from rfl] at h
  simp only[F9,X27] at h
  rcases Nat.eq_or_lt_of_le h1 with rfl | hlt
  ·exact S7 n (i+1) h.1 k (by omega) (by omega)
  exact Ky n (i+1) h.2 j k (by omega) h2 (by omega)
theorem PG {cx:Cx}{ops:Array Oper} :∀(os:List Oper) (i:Nat) (evs:List (List Nat×List Nat)) {st:ASt} {K:List (List Nat×List Nat)->ASt->Prop},
  (∀k (hk:k<os.length),ops[i+k]?=some os[k])->Q5 cx ops os evs st K->
  ∃(es:List (List Nat×List Nat)) (fin:ASt),es.length=os.length/\K (evs.reverse++es) fin/\∀f:Nat->List Nat×List Nat,(∀k (hk:k<es.length),f (i+k)=es[k])->Run cx ops f fin (List.range' i os.length) st
 | [],i,evs,st,K,_,h=>⟨[],st,rfl,by simpa[Q5] using h,fun f _=>rfl⟩
 | o::os,i,evs,st,K,hi,h=>by
  have h:MG cx ops o st fun st'=>Q5 cx ops os ((QV cx.np o st.tm,Zi cx.np o st.tm st'.tm)::evs) st' K:=by
   obtain⟨tm,ob⟩:=st;exact h
  obtain⟨v,w,h,hs⟩:=aj h
  obtain⟨es,fin,h1,h2,h3⟩:=PG os (i+1) _ (fun k hk=>by
   have:=hi (k+1) (by simpa using hk)
   rw[show i+1+k=i+(k+1) by omega,this];rfl) h
  refine⟨(QV cx.np o st.tm,Zi cx.np o st.tm (app o.dst v w st).tm)::es,fin,by simp[h1],by simpa using h2,fun f hf=>?_⟩
  simp only[X12,List.range'_succ]
  refine⟨o,v,w,hi 0 (by simp),?_,h3 f fun k hk=>?_⟩
  ·have:=hf 0 (by simp)
   simp only[Nat.add_zero,List.getElem_cons_zero] at this
   rw[this];exact hs
  have:=hf (k+1) (by simpa using hk)
  rw[show i+1+k=i+(k+1) by omega,this];rfl
theorem D3 {ops:Array Oper}(h:IG ops=true){i:Nat}{o:Oper}(ho:ops[i]?=some o) :
  (CU o).all (fun j=>Nat.blt j i)=true/\∀j,j<i->j∈GZ ops i \/∀q,ops[j]?=some q->q.apart ops o=true:=by
 obtain⟨hi,_⟩:=Array.getElem?_eq_some_iff.1 ho
 have h1:=List.all_eq_true.1 h i (List.mem_range.2 hi)
 simp only[ho,X27] at h1
 refine⟨h1.1.1,fun j hj=>?_⟩
 have h2:=List.all_eq_true.1 h1.2 j (List.mem_range.2 hj)
 simp only[Bool.or_eq_true] at h2
 rcases h2 with h2 | h2
 ·exact .inl (by simpa using h2)
 refine .inr fun q hq=>?_
 simpa[hq] using h2
theorem J0 {ops:Array Oper}(hd:IG ops=true){listed:Nat->Prop}(hdown :∀i o,ops[i]?=some o->listed i->∀j∈CU o,listed j) :
  ∀(n i:Nat),i<n->i<ops.size->listed i->∀k∈GZ ops i,listed k
 | 0,i,h,_,_=>by omega
 | n+1,i,h,hi,hl=>by
  intro k hk
  have ho:ops[i]?=some ops[i]:=by simp[hi]
  obtain⟨hb,_⟩:=D3 hd ho
  rcases Ju ho hb hk with h1 | ⟨q,h1,h2⟩
  ·exact hdown i _ ho hl k h1
  have:=List.all_eq_true.1 hb q h1
  have hq:q<i:=by simpa using this
  exact J0 hd hdown n q (by omega) (by omega) (hdown i _ ho hl q h1) k h2
theorem JG {ops:Array Oper}{listed:Array Bool}{i:Nat}(h:i∈Region.ready .any ops listed) :
  i<ops.size/\listed.getD i true=false/\∃o,ops[i]?=some o/\∀j∈CU o,listed.getD j false=true:=by
 unfold Region.ready at h
 rw[List.mem_filter,List.mem_range] at h
 obtain⟨hi,h⟩:=h
 have ho:ops[i]?=some ops[i]:=by simp[hi]
 simp only[X27,ho,Option.map_some,Option.getD_some] at h
 refine⟨hi,by simpa using h.1,_,ho,fun j hj=>?_⟩
 unfold CU at hj
 obtain⟨e,he,rfl⟩:=List.mem_map.1 hj
 obtain⟨he1,he2⟩:=List.mem_filter.1 he
 have:=Array.all_eq_true'.1 h.2 e (by simpa using he1)
 simpa[he2] using this
theorem mem_ready {ops:Array Oper}{listed:Array Bool}{i:Nat}{o:Oper}(ho:ops[i]?=some o)(hl:listed.getD i true=false)(hp :∀j∈CU o,listed.getD j false=true):i∈Region.ready .any ops listed:=by
 obtain⟨hi,_⟩:=Array.getElem?_eq_some_iff.1 ho
 unfold Region.ready
 rw[List.mem_filter,List.mem_range]
 refine⟨hi,?_⟩
 simp only[X27,ho,Option.map_some,Option.getD_some]
 refine⟨by simp[hl],Array.all_eq_true'.2 fun e he=>?_⟩
 cases hb:Region.binds .any e with
 | false=>rfl
 | true=>
  simp only[Bool.not_true,Bool.false_or]
  exact hp e.on (List.mem_map.2 ⟨e,List.mem_filter.2 ⟨by simpa using he,hb⟩,rfl⟩)
section
variable {P:Program} {E:Env} {tr:Trk}
theorem S9 {cx:Cx}(hT:TabOk P cx.T)(hC:QG E.wl P cx){ops:Array Oper}{f:Nat->List Nat×List Nat}{fin:ASt}{Q:Exit->Act->World->Prop}
  (hd:IG ops=true) (hc :∀j k,j<k->k<ops.size->j∈GZ ops k\/((∀r∈(f j).2,r∉(f k).1)/\∀r∈(f j).1,r∉(f k).2))
  (hQ :∀a w,RR E tr fin a w->Q .normal a w) :∀(fuel:Nat) (L:List Nat) (listed:Array Bool) {st:ASt} {a:Act} {w:World},
  L.length=fuel->listed.size=ops.size->L.Pairwise (·<·)->(∀k,k∈L↔k<ops.size/\listed.getD k true=false)->(∀i o,ops[i]?=some o->listed.getD i false=true->∀j∈CU o,listed.getD j false=true)->
  Run cx ops f fin L st->RR E tr st a w->wpAny P .any ops Q fuel listed a w
 | 0,L,listed,st,a,w,hL,hsz,hp,hm,hdown,hrun,hR=>by
  have:L=[]:=List.length_eq_zero_iff.1 hL
  subst this
  refine⟨?_,hQ _ _ (by rw[<- (show st=fin from hrun)];exact hR)⟩
  cases hr:Region.ready .any ops listed with
  | nil=>rfl
  | cons i l=>
   obtain⟨h1,h2,_⟩:=JG (i:=i) (by rw[hr];simp)
   exact absurd ((hm i).2 ⟨h1,h2⟩) (by simp)
 | fuel+1,L,listed,st,a,w,hL,hsz,hp,hm,hdown,hrun,hR=>by
  have gd :∀k,k<ops.size->listed.getD k true=listed.getD k false:=fun k hk=>by simp[Array.getD,hsz,hk]
  refine⟨fun hr=>?_,fun i hi=>?_⟩
  ·exfalso
   cases L with
   | nil=>simp at hL
   | cons i l=>
    obtain⟨h1,h2⟩:=(hm i).1 (by simp)
    have ho:ops[i]?=some ops[i]:=by simp[h1]
    have:i∈Region.ready .any ops listed:=mem_ready ho h2 fun j hj=>by
     obtain⟨hb,_⟩:=D3 hd ho
     have:=List.all_eq_true.1 hb j hj
     have hji:j<i:=by simpa using this
     cases hx:listed.getD j false with
     | true=>rfl
     | false=>
      have hjL:=(hm j).2 ⟨by omega,by rw[gd j (by omega)];exact hx⟩
      rcases List.mem_cons.1 hjL with e | e
      ·omega
      have:=(List.pairwise_cons.1 hp).1 j e
      omega
    rw[hr] at this
    simp at this
  obtain⟨h1,h2,o,ho,h3⟩:=JG hi
  have hiL:=(hm i).2 ⟨h1,h2⟩
  obtain⟨pre,post,rfl⟩:=List.append_of_mem hiL
  obtain⟨hp1,hp2,hp3⟩:=List.pairwise_append.1 hp
  have hfree :∀j∈pre,Free ops f j i:=by
   intro j hj
   have hji:j<i:=hp3 j hj i (by simp)
   have hnl:¬ listed.getD j false=true:=by
    obtain⟨q1,q2⟩:=(hm j).1 (by simp[hj])
    rw[gd j q1] at q2
    rw[q2];simp
   have hna:j∉GZ ops i:=by
    intro hja
    obtain⟨hb,_⟩:=D3 hd ho
    rcases Ju ho hb hja with e | ⟨q,e1,e2⟩
    ·exact hnl (h3 j e)
    have:=List.all_eq_true.1 hb q e1
    have hq:q<i:=by simpa using this
    exact hnl (J0 hd (listed:=fun k=>listed.getD k false=true) hdown (q+1) q (by omega) (by omega) (h3 q e1) j e2)
   refine⟨fun x y hx hy=>?_,?_⟩
   ·rw[ho] at hy
    cases hy
    exact ((D3 hd ho).2 j hji).resolve_left hna x hx
   exact (hc j i hji h1).resolve_left hna
  obtain⟨o',v,wr,ho',hs,hrun'⟩:=WI pre hfree hrun
  rw[ho] at ho'
  cases ho'
  have hstep:MG cx ops o st fun st'=>Run cx ops f fin (pre++post) st':=hs.go st (fun _ _=>rfl) (fun _ _=>rfl) _ hrun'
  have hnext :∀st' a' w',Run cx ops f fin (pre++post) st'->RR E tr st' a' w'->wpAny P .any ops Q fuel (listed.setIfInBounds i true) a' w':=by
   intro st' a' w' hr' hR'
   have gs :∀k b,(listed.setIfInBounds i true).getD k b=if k=i then true else listed.getD k b:=by
    intro k b
    by_cases hk:k=i
    ·subst hk;simp[Array.getD,hsz,h1]
    have:¬ i=k:=fun e=>hk e.symm
    simp only[hk,if_false,Array.getD,Array.size_setIfInBounds]
    split
    ·rename_i hlt
     exact Array.getElem_setIfInBounds_ne hlt this
    rfl
   refine S9 hT hC hd hc hQ fuel (pre++post) (listed.setIfInBounds i true) (by simp at hL ⊢;omega) (by simpa using hsz) ?_ (fun k=>?_) ?_ hr' hR'
   ·exact List.pairwise_append.2 ⟨hp1,(List.pairwise_cons.1 hp2).2,fun x hx y hy=>hp3 x hx y (by simp[hy])⟩
   ·rw[gs]
    have:=hm k
    by_cases hk:k=i
    ·subst hk
     simp only[if_true]
     constructor
     ·intro hh
      rcases X23.1 hh with hh | hh
      ·exact absurd (hp3 k hh k (by simp)) (by omega)
      exact absurd ((List.pairwise_cons.1 hp2).1 k hh) (by omega)
     intro hh;simp at hh
    simp only[hk,if_false]
    rw[<- this]
    simp[hk]
   intro j q hq hl p hpq
   rw[gs] at hl ⊢
   split
   ·rfl
   by_cases hj:j=i
   ·subst hj
    rw[ho] at hq;cases hq
    exact h3 p hpq
   simp only[hj,if_false] at hl
   exact hdown j q hq hl p hpq
  unfold wpOp
  simp only[ho]
  have:=Q7 (Q:=Q) hT hC hstep hR (next:=wpAny P .any ops Q fuel (listed.setIfInBounds i true)) hnext
  split
  ·rename_i hw;rw[if_pos hw] at this;exact .inl this
  rename_i hw;rw[if_neg hw] at this;exact this
theorem Rt {cx:Cx}(hT:TabOk P cx.T)(hC:QG E.wl P cx){ops:Array Oper}{f:Nat->List Nat×List Nat}{fin:ASt}{Q:Exit->Act->World->Prop}{t:Nat}(ht:t+1=ops.size)(hanc :∀j,j<t->j∈GZ ops t)
  (hd:IG ops=true) (hc :∀j k,j<k->k<t->j∈GZ ops k\/((∀r∈(f j).2,r∉(f k).1)/\∀r∈(f j).1,r∉(f k).2))
  (hQ :∀a w,RR E tr fin a w->wpOp P ops Q t (Q .normal) a w) :∀(fuel:Nat) (L:List Nat) (listed:Array Bool) {st:ASt} {a:Act} {w:World},
  L.length=fuel->listed.size=ops.size->L.Pairwise (·<·)->listed.getD t true=false->(∀k,k∈L↔k<t/\listed.getD k true=false)->(∀i o,ops[i]?=some o->listed.getD i false=true->∀j∈CU o,listed.getD j false=true)->
  Run cx ops f fin L st->RR E tr st a w->wpAny P .any ops Q (fuel+1) listed a w
 | 0,L,listed,st,a,w,hL,hsz,hp,htl,hm,hdown,hrun,hR=>by
  have:L=[]:=List.length_eq_zero_iff.1 hL
  subst this
  have gd :∀k,k<ops.size->listed.getD k true=listed.getD k false:=fun k hk=>by simp[Array.getD,hsz,hk]
  have hall :∀k,k<t->listed.getD k true=true:=by
   intro k hk
   cases hx:listed.getD k true with
   | true=>rfl
   | false=>exact absurd ((hm k).2 ⟨hk,hx⟩) (by simp)
  have hot:ops[t]?=some (ops[t]'(by omega)):=by simp[show t<ops.size by omega]
  have hpt :∀j∈CU (ops[t]'(by omega)),listed.getD j false=true:=by
   intro j hj
   obtain⟨hb,_⟩:=D3 hd hot
   have:=List.all_eq_true.1 hb j hj
   have hji:j<t:=by simpa using this
   rw[<- gd j (by omega)];exact hall j hji
  have htr:t∈Region.ready .any ops listed:=mem_ready hot htl hpt
  refine⟨fun hr=>?_,fun i hi=>?_⟩
  ·rw[hr] at htr;simp at htr
  obtain⟨h1,h2,_⟩:=JG hi
  have hit:i=t:=by
   refine Nat.le_antisymm (by omega) (Nat.le_of_not_lt fun hlt=>?_)
   rw[hall i hlt] at h2
   simp at h2
  subst hit
  refine wpOp_mono (fun a' w' hq=>⟨?_,hq⟩) (hQ a w (by rw[<- (show st=fin from hrun)];exact hR))
  cases hr:Region.ready .any ops (listed.setIfInBounds i true) with
  | nil=>rfl
  | cons k l=>
   exfalso
   obtain⟨h3,h4,_⟩:=JG (i:=k) (by rw[hr];simp)
   by_cases hk:k=i
   ·subst hk;simp[Array.getD,hsz,h1] at h4
   have h5:(listed.setIfInBounds i true).getD k true=listed.getD k true:=by
    have:¬ i=k:=fun e=>hk e.symm
    simp only[Array.getD,Array.size_setIfInBounds]
    split
    ·rename_i hlt
     exact Array.getElem_setIfInBounds_ne hlt this
    rfl
   rw[h5,hall k (by omega)] at h4
   simp at h4
 | fuel+1,L,listed,st,a,w,hL,hsz,hp,htl,hm,hdown,hrun,hR=>by
  have gd :∀k,k<ops.size->listed.getD k true=listed.getD k false:=fun k hk=>by simp[Array.getD,hsz,hk]
  refine⟨fun hr=>?_,fun i hi=>?_⟩
  ·exfalso
   cases L with
   | nil=>simp at hL
   | cons i l=>
    obtain⟨h1',h2⟩:=(hm i).1 (by simp)
    have h1:i<ops.size:=by omega
    have ho:ops[i]?=some ops[i]:=by simp[h1]
    have:i∈Region.ready .any ops listed:=mem_ready ho h2 fun j hj=>by
     obtain⟨hb,_⟩:=D3 hd ho
     have:=List.all_eq_true.1 hb j hj
     have hji:j<i:=by simpa using this
     cases hx:listed.getD j false with
     | true=>rfl
     | false=>
      have hjL:=(hm j).2 ⟨by omega,by rw[gd j (by omega)];exact hx⟩
      rcases List.mem_cons.1 hjL with e | e
      ·omega
      have:=(List.pairwise_cons.1 hp).1 j e
      omega
    rw[hr] at this
    simp at this
  obtain⟨h1,h2,o,ho,h3⟩:=JG hi
  have hit:i≠t:=by
   intro e
   subst e
   cases L with
   | nil=>simp at hL
   | cons j l=>
    obtain⟨q1,q2⟩:=(hm j).1 (by simp)
    have hja:=hanc j q1
    obtain⟨hb,_⟩:=D3 hd ho
    rw[gd j (by omega)] at q2
    rcases Ju ho hb hja with e | ⟨q,e1,e2⟩
    ·rw[h3 j e] at q2;simp at q2
    have:=List.all_eq_true.1 hb q e1
    have hq:q<i:=by simpa using this
    have:=J0 hd (listed:=fun k=>listed.getD k false=true) hdown (q+1) q (by omega) (by omega) (h3 q e1) j e2
    rw[this] at q2;simp at q2
  have hlt:i<t:=by omega
  have hiL:=(hm i).2 ⟨hlt,h2⟩
  obtain⟨pre,post,rfl⟩:=List.append_of_mem hiL
  obtain⟨hp1,hp2,hp3⟩:=List.pairwise_append.1 hp
  have hfree :∀j∈pre,Free ops f j i:=by
   intro j hj
   have hji:j<i:=hp3 j hj i (by simp)
   have hnl:¬ listed.getD j false=true:=by
    obtain⟨q1,q2⟩:=(hm j).1 (by simp[hj])
    rw[gd j (by omega)] at q2
    rw[q2];simp
   have hna:j∉GZ ops i:=by
    intro hja
    obtain⟨hb,_⟩:=D3 hd ho
    rcases Ju ho hb hja with e | ⟨q,e1,e2⟩
    ·exact hnl (h3 j e)
    have:=List.all_eq_true.1 hb q e1
    have hq:q<i:=by simpa using this
    exact hnl (J0 hd (listed:=fun k=>listed.getD k false=true) hdown (q+1) q (by omega) (by omega) (h3 q e1) j e2)
   refine⟨fun x y hx hy=>?_,?_⟩
   ·rw[ho] at hy
    cases hy
    exact ((D3 hd ho).2 j hji).resolve_left hna x hx
   exact (hc j i hji hlt).resolve_left hna
  obtain⟨o',v,wr,ho',hs,hrun'⟩:=WI pre hfree hrun
  rw[ho] at ho'
  cases ho'
  have hstep:MG cx ops o st fun st'=>Run cx ops f fin (pre++post) st':=hs.go st (fun _ _=>rfl) (fun _ _=>rfl) _ hrun'
  have hnext :∀st' a' w',Run cx ops f fin (pre++post) st'->RR E tr st' a' w'->wpAny P .any ops Q (fuel+1) (listed.setIfInBounds i true) a' w':=by
   intro st' a' w' hr' hR'
   have gs :∀k b,(listed.setIfInBounds i true).getD k b=if k=i then true else listed.getD k b:=by
    intro k b
    by_cases hk:k=i
    ·subst hk;simp[Array.getD,hsz,h1]
    have:¬ i=k:=fun e=>hk e.symm
    simp only[hk,if_false,Array.getD,Array.size_setIfInBounds]
    split
    ·rename_i hlt
     exact Array.getElem_setIfInBounds_ne hlt this
    rfl
   refine Rt hT hC ht hanc hd hc hQ fuel (pre++post) (listed.setIfInBounds i true) (by simp at hL ⊢;omega) (by simpa using hsz) ?_ (by rw[gs,if_neg (Ne.symm hit)];exact htl) (fun k=>?_) ?_ hr' hR'
   ·exact List.pairwise_append.2 ⟨hp1,(List.pairwise_cons.1 hp2).2,fun x hx y hy=>hp3 x hx y (by simp[hy])⟩
   ·rw[gs]
    have:=hm k
    by_cases hk:k=i
    ·subst hk
     simp only[if_true]
     constructor
     ·intro hh
      rcases X23.1 hh with hh | hh
      ·exact absurd (hp3 k hh k (by simp)) (by omega)
      exact absurd ((List.pairwise_cons.1 hp2).1 k hh) (by omega)
     intro hh;simp at hh
    simp only[hk,if_false]
    rw[<- this]
    simp[hk]
   intro j q hq hl p hpq
   rw[gs] at hl ⊢
   split
   ·rfl
   by_cases hj:j=i
   ·subst hj
    rw[ho] at hq;cases hq
    exact h3 p hpq
   simp only[hj,if_false] at hl
   exact hdown j q hq hl p hpq
  unfold wpOp
  simp only[ho]
  have:=Q7 (Q:=Q) hT hC hstep hR (next:=wpAny P .any ops Q (fuel+1) (listed.setIfInBounds i true)) hnext
  split
  ·rename_i hw;rw[if_pos hw] at this;exact .inl this
  rename_i hw;rw[if_neg hw] at this;exact this
theorem SK {wl:WL}{cx:Cx}(hT:TabOk P cx.T)(hC:QG wl P cx)(hm:P.follows .mixedOrders=true) :∀(E:Env),E.wl=wl->∀(tr:Trk) (id:Nat) (ops:Array Oper) (st:ASt) (a:Act) (w:World) (K:ASt->Prop) (Q:Exit->Act->World->Prop),tr.np=cx.np->
 IG ops=true->Q5 cx ops ops.toList [] st (fun evs st'=>F9 ops 0 evs=true/\K st')->RR E tr st a w->(∀st' a' w',K st'->RR E tr st' a' w'->Q .normal a' w')->(Code.region id ops true).wp P Q a w:=by
 intro E hwl tr id ops st a w K Q hnp hd h hR hQ
 subst hwl
 obtain⟨es,fin,hlen,⟨hconf,hK⟩,hrun⟩:=PG ops.toList 0 [] (fun k hk=>by simp at hk;simp[hk]) h
 have hrun:=hrun (fun k=>es.getD k default) fun k hk=>by simp[hk]
 simp only[Array.length_toList] at hlen hrun
 have hes:es=(List.range' 0 ops.size).map fun k=>es.getD k default:=by
  apply List.ext_getElem
  ·simp[hlen]
  intro k h1 h2;simp[h1]
 rw[List.reverse_nil,List.nil_append,hes] at hconf
 have hspec:=Ky ops.size 0 hconf
 refine wp_region_any hm ?_
 obtain⟨S,φ,hR1,htr⟩:=hR
 obtain⟨md,kd⟩:=hR1.mem.drew
 have hR':RR E tr st a w.drew:=⟨S,φ,⟨hR1.sz,fun i hi=>⟨kd.rep (hR1.tm i hi).2 (hR1.tm i hi).1,(hR1.tm i hi).2⟩,hR1.df,md⟩,htr⟩
 refine S9 hT hC hd (f:=fun k=>es.getD k default) (fun j k h1 h2=>hspec j k (by omega) h1 (by omega)) (fun a w hR=>hQ fin a w hK hR) ops.size (List.range' 0 ops.size) _ (by simp) (by simp) List.pairwise_lt_range' (fun k=>?_) ?_ hrun hR'
 ·simp[Array.getD]
 intro i o ho hl
 simp[Array.getD] at hl
theorem TE :∀(l:List Oper),(LC l).length=l.length-1/\∀k (hk:k<(LC l).length),∃hk':k<l.length,(LC l)[k]=l[k]
 | []=>⟨rfl,fun k hk=>by simp[LC] at hk⟩
 | [_]=>⟨rfl,fun k hk=>by simp[LC] at hk⟩
 | o::p::l=>by
  obtain⟨h1,h2⟩:=TE (p::l)
  refine⟨by simp only[LC,X12] at *;omega,fun k hk=>?_⟩
  cases k with
  | zero=>exact⟨by simp,rfl⟩
  | succ k=>
   obtain⟨q1,q2⟩:=h2 k (by simpa[LC] using hk)
   exact⟨by simpa using q1,by simpa[LC] using q2⟩
theorem S5 {cx:Cx}{ops:Array Oper}{st:ASt}{K:ASt->Prop} :∀{l:List Oper},ZM cx ops st K l->∃o,l[l.length-1]?=some o/\Xd cx ops o st K
 | [],h=>h.elim
 | [o],h=>⟨o,rfl,h⟩
 | _::p::l,h=>by
  obtain⟨o,h1,h2⟩:=S5 (l:=p::l) h
  exact⟨o,by simpa using h1,h2⟩
theorem Np {wl:WL}{cx:Cx}(hT:TabOk P cx.T)(hC:QG wl P cx)(hm:P.follows .mixedOrders=true):Tu wl P cx:=by
 intro E hwl tr id ops st a w K Q hnp h hR hQ
 rcases h with ⟨hd,h⟩|⟨⟨hd,ht⟩,h⟩
 ·exact SK hT hC hm E hwl tr id ops st a w K Q hnp hd h hR hQ
 subst hwl
 simp only[Zv,X27,List.all_eq_true,List.mem_range] at ht
 obtain⟨ht0,hanc⟩:=ht
 have hpos:0<ops.size:=X29 ht0
 obtain⟨il,ig⟩:=TE ops.toList
 simp only[Array.length_toList] at il
 obtain⟨es,fin,hlen,⟨hconf,hK⟩,hrun⟩:=PG (LC ops.toList) 0 [] (fun k hk=>by
  obtain⟨q1,q2⟩:=ig k hk
  rw[q2]
  simp only[Array.length_toList] at q1
  simp[q1]) h
 have hrun:=hrun (fun k=>es.getD k default) fun k hk=>by simp[hk]
 rw[il] at hlen hrun
 have hes:es=(List.range' 0 (ops.size-1)).map fun k=>es.getD k default:=by
  apply List.ext_getElem
  ·simp[hlen]
  intro k h1 h2;simp[h1]
 rw[List.reverse_nil,List.nil_append,hes] at hconf
 have hspec:=Ky (ops.size-1) 0 hconf
 obtain⟨o,ho,hlast⟩:=S5 hK
 simp only[Array.length_toList] at ho
 have ho:ops[ops.size-1]?=some o:=by simpa using ho
 refine wp_region_any hm ?_
 obtain⟨S,φ,hR1,htr⟩:=hR
 obtain⟨md,kd⟩:=hR1.mem.drew
 have hR':RR E tr st a w.drew:=⟨S,φ,⟨hR1.sz,fun i hi=>⟨kd.rep (hR1.tm i hi).2 (hR1.tm i hi).1,(hR1.tm i hi).2⟩,hR1.df,md⟩,htr⟩
 have key:=Rt (t:=ops.size-1) (Q:=Q) (fin:=fin) hT hC (by omega) (fun j hj=>by simpa using hanc j hj) hd (f:=fun k=>es.getD k default) (fun j k h1 h2=>hspec j k (by omega) h1 (by omega)) (fun a w hR=>?_) (ops.size-1) (List.range' 0 (ops.size-1)) (Array.replicate ops.size false) (by simp) (by simp) List.pairwise_lt_range' (by simp[Array.getD,show ops.size-1<ops.size by omega]) (fun k=>?_) (fun i o ho hl=>?_) hrun hR'
 ·rw[show ops.size-1+1=ops.size by omega] at key
  exact key
 ·unfold wpOp
  simp only[ho]
  have:=Pj (Q:=Q) hT hC hnp hlast hR (next:=Q .normal) hQ
  split
  ·rename_i hw;rw[if_pos hw] at this;exact .inl this
  rename_i hw;rw[if_neg hw] at this;exact this
 ·rw[List.mem_range'_1]
  constructor
  ·rintro⟨_,hi⟩
   exact⟨by omega,by simp[Array.getD,show k<ops.size by omega]⟩
  rintro⟨hi,_⟩
  exact⟨by omega,by omega⟩
 simp[Array.getD] at hl
end
end Go.AX
end
