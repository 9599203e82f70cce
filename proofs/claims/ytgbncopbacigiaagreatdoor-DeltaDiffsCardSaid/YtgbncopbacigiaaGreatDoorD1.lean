/-
  Texts of one proof, packed.
-/
import Derived.Test.YtgbncopbacigiaaGreatDoorD0
import Derived.Deep.MidRow
import Derived.Laws.AppendOwn
set_option linter.all false
set_option maxRecDepth 100000
set_option maxHeartbeats 4000000
open List renaming length_map→X10,length_append→X11,mem_singleton→X14,length_drop→X17,length_take→X18,length_replicate→X20,length_set→X21,mem_append→X23
open Option.some renaming injEq→X24
open Prod.mk renaming injEq→X26
open Nat renaming mul_le_mul_right→X31,add_mul→X32
open Go renaming maxLen→Xbl,MapEntry→Xbn
section
namespace Go.AX
def Eb {α:Type}(l:O α)(n:Nat)(v:α)(K:O α->Prop):KP l n v K↔K (l.set n v):=by
 induction l generalizing n K with
 | nil=>simp[KP]
 | cons x l F=>cases n<;>simp[KP,F]
def GR {α:Type}(l:O α)(n:Nat)(K:O α->Prop):OK l n K↔K (l.drop n):=by
 induction l generalizing n with
 | nil=>cases n<;>simp[OK]
 | cons x l F=>cases n<;>simp[OK,F]
def FT {α:Type}(l:O α)(n:Nat)(K:O α->Prop):M4 l n K↔K (l.take n):=by
 induction l generalizing n K with
 | nil=>cases n<;>simp[M4]
 | cons x l F=>cases n<;>simp[M4,F]
def HH {α:Type}(F:O α)(n:Nat)(vs:O α)(K:O α->Prop) : L8 F n vs K↔n+vs.length<=F.length/\K (F.take n++vs++F.drop (n+vs.length)):=by
 induction F generalizing n vs K with
 | nil=>cases n<;>cases vs<;>simp[L8]
 | cons c F H=>
  cases n with
  | zero=>cases vs<;>simp[L8,H]
  | succ n=>simp[L8,H,Nat.add_right_comm]
@[simp] theorem AH (b:I)(P:Prop):AS b P↔b=true/\P:=by cases b<;>simp[AS]
def BH (a:AV)(K:AV->Prop):a.force K↔K a:=by cases a<;>rfl
def FY (x:D)(K:D->Prop):OO x K↔K x.norm:=by
 cases x with
 | agg F=>
  simp only[OO,D.norm];induction F generalizing K with
  | nil=>simp[O1]
  | cons c F H=>
   simp only[O1,Xam];cases c<;>simp only<;>exact H λx=>match x with
    | .agg l=>K (.agg (_::l))
    | x=>K x
 | _=>simp[OO,D.norm]
def An (ob:O (C OB))(r:Nat)(K:OB->Prop):CC ob r K ↔∃o,ob.getD r none=some o/\K o:=by
 unfold CC;cases ob.getD r none with
 | none=>simp
 | some o=>cases o<;>simp
def Eu (ob:O (C OB))(r:Nat)(K:Prop):uz ob r K↔ob[r]?=some none/\K:=by
 unfold uz;cases ob[r]? with
 | none=>simp
 | some o=>cases o<;>simp
def Zf (F:O AV):AV:=match Ri F with
 | some l=>.d (.agg l)
 | none=>.agg F
def GP (F:O AV)(K:AV->Prop):SY F K↔K (Zf F):=by unfold SY Zf;cases Ri F<;>rfl
def ZD :∀(H:O AV) (l:O D),Ri H=some l->H=l.map .d
 | [],l,h=>by simp[Ri] at h;simp[<- h]
 | a::r,l,h=>by
  cases a<;>simp[Ri] at h;rename_i x;cases F:Ri r with
  | none=>simp[F] at h
  | some J=>simp[F] at h;subst h;simp[ZD r J F]
def IE:O D->C (O AV)
 | []=>some []
 | c::F=>match c.isAgg,IE F with
  | false,some l=>some (.d c::l)
  | _,_=>none
def LP :∀(F:O D) (l:O AV),IE F=some l->l=F.map .d/\∀c∈F,c.isAgg=false
 | [],l,h=>by simp[IE] at h;simp[<- h]
 | c::F,l,h=>by
  simp only[IE] at h;split at h
  ·rename_i J K M;obtain⟨P,Q⟩:=LP F J M;simp only[X24] at h;subst h P;refine⟨rfl,λx H=>?_⟩;cases H with
   | head=>exact K
   | tail _ H=>exact Q x H
  simp at h
def CB:AV->C (O AV)
 | .d (.agg F)=>IE F
 | .d x=>some [.d x]
 | .agg F=>some F
 | .ref r o=>some [.ref r o]
 | .own r n=>some [.own r n]
 | .mp r=>some [.mp r]
 | .fn f c=>some [.fn f c]
 | _=>none
def GU (a:AV)(K:O AV->Prop):LV a K ↔∃l,CB a=some l/\K l:=by
 cases a with
 | d x=>
  cases x with
  | agg F=>
   simp only[LV,CB];induction F generalizing K with
   | nil=>simp[O1,IE]
   | cons c F H=>cases c<;>simp only[O1,H,IE,D.isAgg]<;>cases h:IE F<;>simp
  | _=>simp[LV,CB]
 | _=>simp[LV,CB]
abbrev Sc:=Nat->Nat->Prop
def cellAt (w:B)(b o:Nat):C A:=w.cell? ⟨b,o,none⟩
inductive rH (S:Sc)(w:World):D->Value->Prop
 | val (v:Value) (h:v.oneCell'=true):rH S w (.val v) v
 | agg (cs:List D) (vs:Array Value) (f:Nat->Value) (hs:vs.size=cs.length) (hf :∀i,i<cs.length->vs[i]?=some (f i))
   (hn :∀i (hi:i<cs.length),cs[i].isAgg=false) (h :∀i (hi:i<cs.length),rH S w cs[i] (f i)):rH S w (.agg cs) (.agg vs)
 | nil (sz:Nat):rH S w (.nil sz) (.slice none 0 0)
 | sB (sz:Nat) (a:Option Addr) (cap:Nat):rH S w (.su sz []) (.slice a 0 cap)
 | su (sz:Nat) (es:List D) (b o cap:Nat) (f:Nat->Nat->Value) (hl:es.length<=maxLen) (hc:es.length<=cap) (s7 :∀i (hi:i<es.length),es[i].cells.length=sz)
   (hS :∀i j,i<es.length->j<sz->S b (o+i*sz+j)/\cellAt w b (o+i*sz+j)=some (f i j))
   (hn :∀i (hi:i<es.length) j (hj:j<es[i].cells.length),es[i].cells[j].isAgg=false)
   (h :∀i (hi:i<es.length) j (hj:j<es[i].cells.length),rH S w es[i].cells[j] (f i j)):rH S w (.su sz es) (.slice (some ⟨b,o,none⟩) es.length cap)
abbrev Rp:=Nat×Nat
def Hy (φ:Nat->C (Nat×Rp))(r n:Nat)(v:A):Prop:=
 (φ r=none/\n=0/\∃a,v=.slice a 0 0) \/∃b F,φ r=some (b,F)/\v=.slice (some ⟨b,F.2,none⟩) n F.1
inductive gM (S:Sc)(w:World)(φ:Nat->Option (Nat×Rp))(ob:Nat->Option OB):AV->Value->Prop
 | d (x:D) (v:Value) (h:rH S w x v):gM S w φ ob (.d x) v
 | agg (cs:List AV) (vs:Array Value) (f:Nat->Value) (hs:vs.size=cs.length) (hf :∀i,i<cs.length->vs[i]?=some (f i))
   (hn :∀i (hi:i<cs.length),cs[i].one=true) (h :∀i (hi:i<cs.length),gM S w φ ob cs[i] (f i)):gM S w φ ob (.agg cs) (.agg vs)
 | sH (cs:List AV) (vs:Array Value) (f:Nat->Value) (hs:vs.size=cs.length) (hf :∀i,i<cs.length->vs[i]?=some (f i))
   (h :∀i (hi:i<cs.length),gM S w φ ob cs[i] (f i)):gM S w φ ob (.sH cs) (.tuple vs)
 | ref (r off b:Nat) (c:Rp) (h:φ r=some (b,c)) (hb :∀e sz es frz,ob r≠some (.row e sz es frz)):gM S w φ ob (.ref r off) (.pointer (some ⟨b,off,none⟩))
 | sT (cs:List D) (b o:Nat) (f:Nat->Value) (hS :∀j,j<cs.length->S b (o+j)/\cellAt w b (o+j)=some (f j))
   (hn :∀j (hj:j<cs.length),cs[j].isAgg=false) (h :∀j (hj:j<cs.length),rH S w cs[j] (f j)):gM S w φ ob (.sT cs) (.pointer (some ⟨b,o,none⟩))
 | own (r n:Nat) (v:Value) (k c:Nat) (a0:Option Addr) (hv:v=.slice a0 k c) (hk:k=n)
   (h :∀e sz es frz,ob r=some (.row e sz es frz)->n<=es.length/\(n=es.length->Hy φ r n v)) (hb :∀cs,ob r=some (.box cs)->n=1/\∃b c,φ r=some (b,c)/\v=.slice (some ⟨b,0,none⟩) 1 1):gM S w φ ob (.own r n) v
 | sh (r n i k:Nat) (v:Value) (h :∀e sz es frz,ob r=some (.row e sz es frz)->n<=es.length/\(n=es.length->i<n/\∃b c,φ r=some (b,c)/\v=.pointer (some ⟨b,c.2+(i*sz+k),none⟩)))
   (hb :∀cs,ob r=some (.box cs)->∃b c,φ r=some (b,c)/\v=.pointer (some ⟨b,k+i,none⟩)) (hp :∃a,v=.pointer (some a)):gM S w φ ob (.sh r n i k) v
 | th (r a n m:Nat) (v:Value) (k c:Nat) (a0:Option Addr) (hv:v=.slice a0 k c) (hk:k=n)
   (h :∀e sz es frz,ob r=some (.row e sz es frz)->m<=es.length/\(m=es.length->a+n<=m/\(n=0 \/∃b cap c',φ r=some (b,cap)/\v=.slice (some ⟨b,cap.2+a*sz,none⟩) n c'/\n<=c')/\(a=0->Hy φ r n v))):gM S w φ ob (.th r a n m) v
 | mp (r b:Nat) (c:Rp) (h:φ r=some (b,c)) (hb :∀e sz es frz,ob r≠some (.row e sz es frz)) (hc :∀cs,ob r≠some (.box cs)):gM S w φ ob (.mp r) (.map (some b))
 | it (f:FuncId) (r b:Nat) (c:Rp) (B:Nat) (h:φ r=some (b,c)) (hb :∀e sz es frz,ob r≠some (.row e sz es frz)) (hc :∀cs,ob r≠some (.box cs)) (hS:S B 0) (hm:cellAt w B 0=some (.map (some b))) :
   gM S w φ ob (.it f r) (.func (.func f) #[] #[.pointer (some ⟨B,0,none⟩)])
 | fn (f:FuncId) (cs:List AV) (vs:Array Value) (g:Nat->Value) (hs:vs.size=cs.length) (hf :∀i,i<cs.length->vs[i]?=some (g i))
   (h :∀i (hi:i<cs.length),gM S w φ ob cs[i] (g i)):gM S w φ ob (.fn f cs) (.func (.func f) #[] vs)
 | gl (g:Nat):gM S w φ ob (.gl g) (.pointer (some ⟨g,0,none⟩))
 | gv (g:Nat) (v:Value) (hS:S g 0) (hv:cellAt w g 0=some v):gM S w φ ob (.gv g) v
 | dead (v:Value):gM S w φ ob .dead v
def Q9 (S:Sc)(w:B)(S':Sc)(w':B):Prop:=∀b o,S b o->S' b o/\cellAt w' b o=cellAt w b o
def rH.mono {S S':Sc}{w w':B}(Q:Q9 S w S' w'){x:D}{v:A}(h:rH S w x v):rH S' w' x v:=by
 induction h with
 | val v h=>exact .val v h
 | agg U vs f V Y H _ J=>exact .agg U vs f V Y H J
 | nil sz=>exact .nil sz
 | sB sz a F=>exact .sB sz a F
 | su sz Z b o F f hl hc s7 K H _ J=>exact .su sz Z b o F f hl hc s7 (λi j M P=>⟨(Q _ _ (K i j M P).1).1,(Q _ _ (K i j M P).1).2.trans (K i j M P).2⟩) H J
def tz:C OB->C (Nat×Nat×Nat)
 | some (.row e sz es _)=>some (e,sz,es.length)
 | _=>none
def sW (φ:Nat->C (Nat×Rp))(ob:Nat->C OB)(φ':Nat->C (Nat×Rp))(ob':Nat->C OB)(r:Nat):Prop:=
 (φ' r=φ r/\tz (ob' r)=tz (ob r)/\((∃J,ob' r=some (.box J))->∃J,ob r=some (.box J))) \/
 (∃e sz K F H M,ob r=some (.row e sz K F)/\ob' r=some (.row e sz H M)/\K.length<=H.length/\(H.length=K.length->φ' r=φ r)) \/
 ((∃e sz K F,ob r=some (.row e sz K F))/\tz (ob' r)=none/\∀J,ob' r≠some (.box J))
def Hz {o:C OB}{e sz:Nat}{es:O D}{frz:FZ}{o':C OB}(h:o'=some (.row e sz es frz))(F:tz o'=tz o) : ∃H f,o=some (.row e sz H f)/\H.length=es.length:=by
 subst h;cases o with
 | none=>simp[tz] at F
 | some o=>
  cases o with
  | box M=>simp[tz] at F
  | map=>simp[tz] at F
  | rK=>simp[tz] at F
  | gone=>simp[tz] at F
  | row P K J f=>simp[tz] at F;exact⟨J,f,by simp[F],F.2.2.symm⟩
def RH {o:C OB}(h:tz o=none)(e sz:Nat)(es:O D)(frz:FZ):o≠some (.row e sz es frz):=by rintro rfl;simp[tz] at h
def gM.mono {S S':Sc}{w w':World}{φ φ':Nat->C (Nat×Rp)}{ob ob':Nat->C OB}(hk:Q9 S w S' w'){a:AV}{v:A}(h:gM S w φ ob a v) (hr :∀r,r∈a.refs->sW φ ob φ' ob' r):gM S' w' φ' ob' a v:=by
 have hl :∀(K:O AV) (i:Nat) (hi:i<K.length) (r:Nat),r∈K[i].refs->r∈AV.refs.refsL K:=by
  intro K;induction K with
  | nil=>intro i hi;simp at hi
  | cons c K ih=>
   intro i hi r hm;simp only[AV.refs.refsL,X23];cases i with
   | zero=>exact .inl hm
   | succ i=>exact .inr (ih i (by simpa using hi) r hm)
 induction h with
 | d x v h=>exact .d x v (h.mono hk)
 | agg K vs f hs hf hn _ ih=>exact .agg K vs f hs hf hn λi hi=>ih i hi λr hm=>hr r (hl K i hi r hm)
 | sH K vs f hs hf _ ih=>exact .sH K vs f hs hf λi hi=>ih i hi λr hm=>hr r (hl K i hi r hm)
 | ref r ae b c h Y=>
  rcases hr r (by simp[AV.refs]) with ⟨J,M,_⟩|⟨e,sz,P,H,_,_,J,_⟩|⟨⟨e,sz,P,H,J⟩,_⟩;rotate_left 2
  ·exact absurd J (Y _ _ _ _)
  ·refine .ref r ae b c (J.trans h) λe sz P H F=>?_;obtain⟨U,f,Z,_⟩:=Hz F M;exact Y _ _ _ _ Z
  exact absurd J (Y _ _ _ _)
 | mp r b c h Y hc=>
  rcases hr r (by simp[AV.refs]) with ⟨J,M,Q⟩|⟨e,sz,P,H,_,_,J,_⟩|⟨⟨e,sz,P,H,J⟩,_⟩;rotate_left 2
  ·exact absurd J (Y _ _ _ _)
  ·refine .mp r b c (J.trans h) (λe sz P H F=>?_) λK F=>?_
   ·obtain⟨U,f,Z,_⟩:=Hz F M;exact Y _ _ _ _ Z
   obtain⟨a1,h'⟩:=Q ⟨K,F⟩;exact hc a1 h'
  exact absurd J (Y _ _ _ _)
 | it f r b c B h Y hc hS hm=>
  rcases hr r (by simp[AV.refs]) with ⟨J,M,Q⟩|⟨e,sz,P,H,_,_,J,_⟩|⟨⟨e,sz,P,H,J⟩,_⟩;rotate_left 2
  ·exact absurd J (Y _ _ _ _)
  ·refine .it f r b c B (J.trans h) (λe sz P H F=>?_) (λK F=>?_) (hk _ _ hS).1 ((hk _ _ hS).2.trans hm)
   ·obtain⟨U,f,Z,_⟩:=Hz F M;exact Y _ _ _ _ Z
   obtain⟨a1,h'⟩:=Q ⟨K,F⟩;exact hc a1 h'
  exact absurd J (Y _ _ _ _)
 | sT K b o f hS hn h=>exact .sT K b o f (λj hj=>⟨(hk _ _ (hS j hj).1).1,(hk _ _ (hS j hj).1).2.trans (hS j hj).2⟩) hn λj hj=>(h j hj).mono hk
 | own r n v k c a0 hv a6 h Y=>
  rcases hr r (by simp[AV.refs]) with ⟨J,M,Q⟩|⟨e,sz,P,H,a7,a8,J,M,Q,h4⟩|⟨_,M,Q⟩;rotate_left 2
  ·exact .own r n v k c a0 hv a6 (λe sz P H F=>absurd F (RH M _ _ _ _)) λK F=>absurd F (Q K)
  ·refine .own r n v k c a0 hv a6 (λe sz P H F=>?_) λK F=>?_
   ·obtain⟨U,f,Z,V⟩:=Hz F M;obtain⟨g1,g2⟩:=h _ _ _ _ Z;refine⟨V▸g1,λhn=>?_⟩;have:=g2 (V▸hn);unfold Hy at *;rwa [J]
   obtain⟨a1,h'⟩:=Q ⟨K,F⟩;rw[J];exact Y a1 h'
  refine .own r n v k c a0 hv a6 (λe0 ab U aa F=>?_) λK F=>by rw[M] at F;simp at F
  rw[M] at F;simp only[X24,OB.row.injEq] at F;obtain⟨rfl,rfl,rfl,rfl⟩:=F;obtain⟨g1,g2⟩:=h _ _ _ _ J;refine⟨Xa3 g1 Q,λhn=>?_⟩;have he:a7.length=P.length:=by omega
  have:=g2 (by omega);unfold Hy at *;rwa [h4 he]
 | sh r n i k v h Y hp=>
  rcases hr r (by simp[AV.refs]) with ⟨J,M,Q⟩|⟨e,sz,P,H,a7,a8,J,M,Q,h4⟩|⟨_,M,Q⟩;rotate_left 2
  ·exact .sh r n i k v (λe sz P H F=>absurd F (RH M _ _ _ _)) (λK F=>absurd F (Q K)) hp
  ·refine .sh r n i k v (λe sz P H F=>?_) (λK F=>?_) hp
   ·obtain⟨U,f,Z,V⟩:=Hz F M;obtain⟨g1,g2⟩:=h _ _ _ _ Z;refine⟨V▸g1,λhn=>?_⟩;have:=g2 (V▸hn);rwa [J]
   obtain⟨a1,h'⟩:=Q ⟨K,F⟩;rw[J];exact Y a1 h'
  refine .sh r n i k v (λe0 ab U aa F=>?_) (λK F=>by rw[M] at F;simp at F) hp;rw[M] at F;simp only[X24,OB.row.injEq] at F;obtain⟨rfl,rfl,rfl,rfl⟩:=F;obtain⟨g1,g2⟩:=h _ _ _ _ J;refine⟨Xa3 g1 Q,λhn=>?_⟩;have he:a7.length=P.length:=by omega
  have:=g2 (by omega);rwa [h4 he]
 | th r a n m v k c a0 hv a6 h=>
  rcases hr r (by simp[AV.refs]) with ⟨J,M,Q⟩|⟨e,sz,P,H,a7,a8,J,M,Q,h4⟩|⟨_,M,Q⟩
  ·refine .th r a n m v k c a0 hv a6 λe sz P H F=>?_;obtain⟨U,f,Z,V⟩:=Hz F M;obtain⟨g1,g2⟩:=h _ _ _ _ Z;refine⟨V▸g1,λhn=>?_⟩;have:=g2 (V▸hn);refine⟨this.1,by rw[J];exact this.2.1,λZ=>?_⟩;have:=this.2.2 Z;unfold Hy at *;rwa [J]
  ·refine .th r a n m v k c a0 hv a6 λe0 ab U aa F=>?_;rw[M] at F;simp only[X24,OB.row.injEq] at F;obtain⟨rfl,rfl,rfl,rfl⟩:=F;obtain⟨g1,g2⟩:=h _ _ _ _ J;refine⟨Xa3 g1 Q,λhn=>?_⟩;have he:a7.length=P.length:=by omega
   have:=g2 (by omega);refine⟨this.1,by rw[h4 he];exact this.2.1,λZ=>?_⟩;have:=this.2.2 Z;unfold Hy at *;rwa [h4 he]
  exact .th r a n m v k c a0 hv a6 λe sz P H F=>absurd F (RH M _ _ _ _)
 | fn f K vs g hs hf _ ih=>exact .fn f K vs g hs hf λi hi=>ih i hi λr hm=>hr r (hl K i hi r hm)
 | gl g=>exact .gl g
 | gv g v hS hv=>exact .gv g v (hk _ _ hS).1 ((hk _ _ hS).2.trans hv)
 | dead v=>exact .dead v
def rH.one {S:Sc}{w:B}{x:D}{v:A}(h:rH S w x v)(F:x.isAgg=false):v.oneCell'=true:=by cases h<;>first|assumption|rfl|simp[D.isAgg] at F
def gM.one {S:Sc}{w:B}{φ:Nat->C (Nat×Rp)}{ob:Nat->C OB}{a:AV}{v:A}(h:gM S w φ ob a v)(F:a.one=true):v.oneCell'=true:=by
 cases h<;>simp[AV.one] at F;case d h=>exact h.one F
 case own=>subst_vars;rfl
 case th=>subst_vars;rfl
 case sh hp=>obtain⟨a,rfl⟩:=hp;rfl
 all_goals rfl
def rM (S:Sc)(w:B)(es:O (D×D))(l:O Xbn):Prop:=
 l.length=es.length/\∀i (F:i<es.length),∃x,l[i]?=some x/\(∃u,es[i].1=.val u/\x.key=u/\u.oneCell'=true)/\rH S w es[i].2 x.val
structure WL where
 wl:Prop
 G:Nat->Option (List (D×D))
def WL.low (W:WL):WL:=⟨False,W.G⟩
def WL.plain:WL:=⟨True,λ_=>none⟩
def WL.gf (W:WL)(gb:Nat->Prop)(w:B):Prop:=∀g J,W.G g=some J->gb g/\∃b arr F H,gb b/\cellAt w g 0=some (.map (some b))/\w.heap[b]?=some (.map arr F)/\(∀tk x q,BU tk x J=some q->BU tk x H=some q)/\rM (λ_ _=>False) w H arr.toList
def WL.ext (W:WL)(gb:Nat->Prop)(w w':B)(h :∀b,gb b->w'.heap[b]?=w.heap[b]?)(hg:W.gf gb w):W.gf gb w':=by
 intro g P Q;obtain⟨J,b,arr,F,H,K,U,V,Y,M⟩:=hg g P Q;refine⟨J,b,arr,F,H,K,?_,(h b K).trans V,Y,M.1,λi Z=>?_⟩
 ·rw[<- U];simp[cellAt,World.cell?,h g J]
 obtain⟨x,e1,e2,e3⟩:=M.2 i Z;exact⟨x,e1,e2,e3.mono λ_ _ hf=>hf.elim⟩
structure tK (W:WL)(gb PB:Nat->Prop)(S:Sc)(w:World):Prop where
 gf:W.gf gb w
 lt :∀b,gb b->b<w.heap.size
 pb :∀b,gb b->¬ PB b
 st :∀b o,gb b->cellAt w b o≠none->S b o
structure Env where
 w0:World
 S0:Sc
 PB:Nat->Prop
 wl:WL
 gb:Nat->Prop
 hg:tK wl gb PB S0 w0
def sY (F:A)(Q:A->Prop):O Xbn->Prop
 | []=>Q (.slice none 0 0)
 | x::l=>(x.key=F->Q x.val)/\(x.key≠F->sY F Q l)
def sY.imp {F:A}{Q H:A->Prop}(h :∀v,Q v->H v) :∀{l:O Xbn},sY F Q l->sY F H l
 | [],a=>h _ a
 | _::_,a=>⟨λe=>h _ (a.1 e),λe=>(a.2 e).imp h⟩
def sC (arr:Array Xbn)(F:Nat):Prop:=(∀x∈arr.toList,x.born<F)/\(arr.toList.map (·.born)).Nodup
def sC.empty (c:Nat):sC #[] c:=⟨λx F=>by simp at F,by simp⟩
def sC.push {arr:Array Xbn}{c:Nat}(h:sC arr c)(k v:A):sC (arr.push ⟨k,v,c⟩) (c+1):=by
 refine⟨λx F=>?_,?_⟩
 ·rw[Array.toList_push,X23] at F;rcases F with F|F
  ·exact Nat.lt_succ_of_lt (h.1 x F)
  rw[X14.1 F];exact Nat.lt_succ_self _
 rw[Array.toList_push,List.map_append,Xbw];refine⟨h.2,by simp,λa H b J e=>?_⟩;obtain⟨x,F,rfl⟩:=Xa0.1 H;have:=h.1 x F;simp only[Xam,List.map_nil,X14] at J;omega
def sC.modify {arr:Array Xbn}{c:Nat}(h:sC arr c)(j:Nat)(f:Xbn->Xbn)(F :∀x,(f x).born=x.born):sC (arr.modify j f) c:=by
 have e:(arr.modify j f).toList.map (·.born)=arr.toList.map (·.born):=by
  apply List.ext_getElem
  ·simp
  intro i M P;simp only[Xas,Array.getElem_toList,Array.getElem_modify];split
  ·exact F _
  rfl
 refine⟨λx H=>?_,by rw[e];exact h.2⟩;have:x.born∈(arr.modify j f).toList.map (·.born):=Xa0.2 ⟨x,H,rfl⟩;rw[e] at this;obtain⟨y,J,K⟩:=Xa0.1 this;rw[<- K];exact h.1 y J
def tc (S:Sc)(w:B)(φ:Nat->C (Nat×Rp))(ob:Nat->C OB)(r:Nat):OB->Prop
 | .box K=>∃b c vs e,∃f:Nat->A,φ r=some (b,c)/\w.heap[b]?=some (.cells vs e (0,0))/\vs.size=K.length/\(∀o,¬ S b o)/\
   (∀j,j<K.length->vs[j]?=some (f j))/\(∀j (Q:j<K.length),K[j].one=true/\gM S w φ ob K[j] (f j))
 | .row e sz F M=>0<sz/\(∀i (P:i<F.length),F[i].cells.length=sz)/\(∀i (P:i<F.length) j (Q:j<F[i].cells.length),F[i].cells[j].isAgg=false)/\
   ((φ r=none/\F=[]) \/∃b J vs,∃f:Nat->Nat->A,φ r=some (b,J)/\w.heap[b]?=some (.cells vs e (0,0))/\F.length<=J.1/\J.1<=Xbl/\J.2+J.1*sz<=vs.size/\ (∀i j,i<F.length->j<sz->vs[J.2+(i*sz+j)]?=some (f i j))/\(∀i (P:i<F.length) j (Q:j<F[i].cells.length),rH S w F[i].cells[j] (f i j))/\ (∀o,(if M.frozen then J.2+F.length*sz else 0)<=o->¬ S b o)/\∀i j q n,M=.lk i j q n->i<F.length->j<sz->gM S w φ ob (.own q n) (f i j))
 | .gone=>True
 | .map _ _ F=>∃b c arr H,φ r=some (b,c)/\w.heap[b]?=some (.map arr H)/\(arr.size=F.length/\sC arr H)/\(∀o,¬ S b o)/\
   ∀i (P:i<F.length),∃x:Xbn,arr[i]?=some x/\(∃u,F[i].1=.val u/\x.key=u/\u.oneCell'=true)/\rH S w F[i].2 x.val
 | .rK _ _ F U V n=>∃b c arr H,φ r=some (b,c)/\w.heap[b]?=some (.map arr H)/\(arr.size=F.length/\sC arr H)/\(∀o,¬ S b o)/\
   (∀i (P:i<F.length),∃x:Xbn,arr[i]?=some x/\(∃u,F[i].1=.val u/\x.key=u/\u.oneCell'=true)/\rH S w F[i].2 x.val)/\
   sY U (gM S w φ ob (.own V n)) arr.toList
structure Mem (E:Env)(w:World)(S:Sc)(φ:Nat->Option (Nat×Rp))(ob:Nat->Option OB):Prop where
 obj :∀r o,ob r=some o->tc S w φ ob r o
 inj :∀r r' b c c',ob r≠none->ob r'≠none->φ r=some (b,c)->φ r'=some (b,c')->r=r'
 tE :∀r o,ob r=some o->∀r'∈o.refs,ob r'≠none
 sS :∀b o,E.S0 b o->S b o
 kS :∀b o,E.S0 b o->cellAt w b o=cellAt E.w0 b o
 bS :∀b o,S b o->b<w.heap.size
 nS :∀b o,S b o->b<E.w0.heap.size->¬ E.PB b->E.S0 b o
 fr :∀b,b<E.w0.heap.size->¬ E.PB b->w.heap[b]?=E.w0.heap[b]?
 sz:E.w0.heap.size<=w.heap.size
 ow :∀r b c,ob r≠none->φ r=some (b,c)->b<w.heap.size/\(E.w0.heap.size<=b\/E.PB b)
 os:w.os=E.w0.os/\w.output=E.w0.output/\w.tape=E.w0.tape/\(E.wl.wl\/E.w0.drawn<=w.drawn)
def Mem.vQ {E:Env}{w:B}{S:Sc}{φ:Nat->C (Nat×Rp)}{ob:Nat->C OB}(m:Mem E w S φ ob){PB:Nat->Prop}(h :∀b,PB b->∃r c,ob r≠none/\φ r=some (b,c)) : tK E.wl E.gb PB S w:=by
 obtain⟨M,H,J,P⟩:=E.hg;have e :∀b,E.gb b->w.heap[b]?=E.w0.heap[b]?:=λb F=>m.fr b (H b F) (J b F);refine⟨E.wl.ext _ _ _ e M,λb F=>Xap (H b F) m.sz,λb F hp=>?_,λb o F Q=>m.sS b o (P b o F ?_)⟩
 ·obtain⟨r,c,q3,q4⟩:=h b hp;rcases (m.ow r b c q3 q4).2 with K|K
  ·have:=H b F;omega
  exact J b F K
 intro U;apply Q;rw[<- U];simp[cellAt,World.cell?,e b F]
def gO (ob:Nat->C OB)(a:AV):Prop:=∀r∈a.refs,ob r≠none
structure Kept (w:World)(S:Sc)(φ:Nat->Option (Nat×Rp))(ob:Nat->Option OB)(w':World)(S':Sc)(φ':Nat->Option (Nat×Rp))(ob':Nat->Option OB):Prop where
 k:Q9 S w S' w'
 r :∀r,ob r≠none->sW φ ob φ' ob' r
 c :∀r,ob r≠none->ob' r≠none
def Kept.tZ {w w':B}{S S':Sc}{φ φ':Nat->C (Nat×Rp)}{ob ob':Nat->C OB}(h:Kept w S φ ob w' S' φ' ob'){a:AV}{v:A} (F:gO ob a) (H:gM S w φ ob a v):gM S' w' φ' ob' a v:=H.mono h.k λr J=>h.r r (F r J)
def Kept.closed {w w':B}{S S':Sc}{φ φ':Nat->C (Nat×Rp)}{ob ob':Nat->C OB}(h:Kept w S φ ob w' S' φ' ob'){a:AV} (F:gO ob a):gO ob' a:=λr H=>h.c r (F r H)
def sW.refl (φ:Nat->C (Nat×Rp))(ob:Nat->C OB)(r:Nat):sW φ ob φ ob r:=.inl ⟨rfl,rfl,id⟩
def Kept.refl (w:B)(S:Sc)(φ:Nat->C (Nat×Rp))(ob:Nat->C OB):Kept w S φ ob w S φ ob:=
 ⟨λ_ _ h=>⟨h,rfl⟩,λr _=>.refl φ ob r,λ_ h=>h⟩
def rJ {α:Type}(f:Nat->α)(r:Nat)(x:α):Nat->α:=λi=>if i=r then x else f i
@[simp] theorem gL {α:Type}(f:Nat->α)(r:Nat)(x:α):rJ f r x r=x:=by simp[rJ]
def AO {α:Type}(f:Nat->α)(r i:Nat)(x:α)(h:i≠r):rJ f r x i=f i:=by simp[rJ,h]
def BB {w:B}{b:Nat}{vs:Array A}{e:Nat}{fr:Nat×Nat}(h:w.heap[b]?=some (.cells vs e fr))(o:Nat):cellAt w b o=vs[o]?:=by simp[cellAt,World.cell?,h]
def GQ (w:B)(o:Obj){b:Nat}(h:b<w.heap.size):(w.alloc o).heap[b]?=w.heap[b]?:=by show (w.heap.push o)[b]?=_;rw[Array.getElem?_push,Xj (by omega)]
def DT {w w':B}{b:Nat}(h:w'.heap[b]?=w.heap[b]?)(o:Nat):cellAt w' b o=cellAt w b o:=by simp[cellAt,World.cell?,h]
def tc.s9 {w w':B}{S S':Sc}{φ φ':Nat->C (Nat×Rp)}{ob ob':Nat->C OB}(hk:Kept w S φ ob w' S' φ' ob'){r:Nat}{o:OB} (h:tc S w φ ob r o) (J:φ' r=φ r) (M :∀b c,φ r=some (b,c)->w'.heap[b]?=w.heap[b]?/\∀o,S' b o->S b o) (hc :∀U∈o.refs,ob U≠none):tc S' w' φ' ob' r o:=by
 cases o with
 | box P=>
  obtain⟨b,c,vs,e,f,H,V,Y,h4,h5,h6⟩:=h;have Z :∀(P:O AV) (j:Nat) (Q:j<P.length) (r:Nat),r∈P[j].refs->r∈AV.refs.refsL P:=by
   intro P;induction P with
   | nil=>intro i K;simp at K
   | cons c P ih=>
    intro i K r hm;simp only[AV.refs.refsL,X23];cases i with
    | zero=>exact .inl hm
    | succ i=>exact .inr (ih i (by simpa using K) r hm)
  exact⟨b,c,vs,e,f,J.trans H,(M b c H).1.trans V,Y,λo ho=>h4 o ((M b c H).2 o ho),h5, λj Q=>⟨(h6 j Q).1,hk.tZ (λU a6=>hc U (Z P j Q U a6)) (h6 j Q).2⟩⟩
 | row e sz es a7=>obtain⟨h0,H,V,Y⟩:=h;refine⟨h0,H,V,Y.imp (λg=>⟨J.trans g.1,g.2⟩) ?_⟩;rintro⟨b,a1,vs,f,g1,g2,g3,g4,g5,g6,g7,g8⟩;exact⟨b,a1,vs,f,J.trans g1,(M b a1 g1).1.trans g2,g3,g4,g5,g6,λi K j Q=>(g7 i K j Q).mono hk.k,⟨λo ho hs=>g8.1 o ho ((M b a1 g1).2 o hs),λi j q n hf K Q=>hk.tZ (λq' hq=>hc q' (by subst hf;simpa[AV.refs,OB.refs] using hq)) (g8.2 i j q n hf K Q)⟩⟩
 | gone=>trivial
 | map k e es=>obtain⟨b,c,arr,F,H,V,Y,h4,h5⟩:=h;refine⟨b,c,arr,F,J.trans H,(M b c H).1.trans V,Y,λo ho=>h4 o ((M b c H).2 o ho),λi K=>?_⟩;obtain⟨x,g1,g2,g3⟩:=h5 i K;exact⟨x,g1,g2,g3.mono hk.k⟩
 | rK k e es kv U n=>obtain⟨b,c,arr,F,H,V,Y,h4,h5,h6⟩:=h;have hr :∀{v:A},gM S w φ ob (.own U n) v->gM S' w' φ' ob' (.own U n) v:=λha=>hk.tZ (λq hq=>hc q (by simpa[AV.refs,OB.refs] using hq)) ha;refine⟨b,c,arr,F,J.trans H,(M b c H).1.trans V,Y,λo ho=>h4 o ((M b c H).2 o ho),λi K=>?_,h6.imp λv hv=>hr hv⟩;obtain⟨x,g1,g2,g3⟩:=h5 i K;exact⟨x,g1,g2,g3.mono hk.k⟩
def Mem.vl {E:Env}{w:B}{S:Sc}{φ:Nat->C (Nat×Rp)}{ob:Nat->C OB}(m:Mem E w S φ ob)(r:Nat)(cap:Rp)(x:OB)(q:Obj) (hr:ob r=none) (hx :∀F∈x.refs,ob F≠none) (a1:Kept w S φ ob (w.alloc q) S (rJ φ r (some (w.heap.size,cap))) (rJ ob r (some x))->tc S (w.alloc q) (rJ φ r (some (w.heap.size,cap))) (rJ ob r (some x)) r x) : Mem E (w.alloc q) S (rJ φ r (some (w.heap.size,cap))) (rJ ob r (some x))/\ Kept w S φ ob (w.alloc q) S (rJ φ r (some (w.heap.size,cap))) (rJ ob r (some x)):=by
 have H :∀b,b<w.heap.size->(w.alloc q).heap[b]?=w.heap[b]?:=λb hb=>GQ w _ hb;have K :∀F,ob F≠none->F≠r:=λF h e=>h (e▸hr);have Q:Kept w S φ ob (w.alloc q) S (rJ φ r (some (w.heap.size,cap))) (rJ ob r (some x)):=by
  refine⟨λb o h=>⟨h,DT (H b (m.bS b o h)) o⟩,λF h=>.inl ?_,λF h=>?_⟩
  ·rw[AO _ _ _ _ (K F h),AO _ _ _ _ (K F h)];exact⟨rfl,rfl,id⟩
  rw[AO _ _ _ _ (K F h)];exact h
 refine⟨⟨?_,?_,?_,m.sS,?_,?_,m.nS,?_,?_,?_,m.os⟩,Q⟩
 ·intro F o h;by_cases J:F=r
  ·subst J;simp only[gL,X24] at h;subst h;exact a1 Q
  rw[AO _ _ _ _ J] at h;refine (m.obj F o h).s9 Q (AO _ _ _ _ J) (λb c hb=>⟨H b (m.ow F b c (by simp[h]) hb).1,λ_ h=>h⟩) (m.tE F o h)
 ·intro r1 V b c c' Y Z M P;by_cases e1:r1=r
  ·by_cases e2:V=r
   ·rw[e1,e2]
   subst e1;rw[gL] at M;rw[AO _ _ _ _ e2] at P Z;simp only[X24,X26] at M;have:=(m.ow V b c' Z P).1;omega
  by_cases e2:V=r
  ·subst e2;rw[gL] at P;rw[AO _ _ _ _ e1] at M Y;simp only[X24,X26] at P;have:=(m.ow r1 b c Y M).1;omega
  rw[AO _ _ _ _ e1] at M Y;rw[AO _ _ _ _ e2] at P Z;exact m.inj r1 V b c c' Y Z M P
 ·intro F o h U hm;by_cases J:F=r
  ·subst J;simp only[gL,X24] at h;subst h;exact Q.c _ (hx U hm)
  rw[AO _ _ _ _ J] at h;exact Q.c _ (m.tE F o h U hm)
 ·intro b o h;exact (DT (H b (m.bS b o (m.sS b o h))) o).trans (m.kS b o h)
 ·intro b o h;have:=m.bS b o h;simp;omega
 ·intro b h h';exact (H b (Xap h m.sz)).trans (m.fr b h h')
 ·have:=m.sz;simp;omega
 intro F b c h g;by_cases J:F=r
 ·subst J;simp only[gL,X24,X26] at g;have:=m.sz;exact⟨by simp;omega,.inl (by omega)⟩
 rw[AO _ _ _ _ J] at g h;have:=m.ow F b c h g;exact⟨by simp;omega,this.2⟩
def Mem.alloc {E:Env}{w:B}{S:Sc}{φ:Nat->C (Nat×Rp)}{ob:Nat->C OB}(m:Mem E w S φ ob)(r:Nat)(cap:Rp)(x:OB)(vs:Array A)(e:Nat) (H:ob r=none) (J :∀K∈x.refs,ob K≠none) (F:Kept w S φ ob (w.alloc (.cells vs e)) S (rJ φ r (some (w.heap.size,cap))) (rJ ob r (some x))->tc S (w.alloc (.cells vs e)) (rJ φ r (some (w.heap.size,cap))) (rJ ob r (some x)) r x) : Mem E (w.alloc (.cells vs e)) S (rJ φ r (some (w.heap.size,cap))) (rJ ob r (some x))/\ Kept w S φ ob (w.alloc (.cells vs e)) S (rJ φ r (some (w.heap.size,cap))) (rJ ob r (some x)):=
 m.vl r cap x (.cells vs e) H J F
def Mem.empty {E:Env}{w:B}{S:Sc}{φ:Nat->C (Nat×Rp)}{ob:Nat->C OB}(m:Mem E w S φ ob)(r e sz:Nat)(hr:ob r=none)(s7:0<sz) : Mem E w S (rJ φ r none) (rJ ob r (some (.row e sz [] .no)))/\Kept w S φ ob w S (rJ φ r none) (rJ ob r (some (.row e sz [] .no))):=by
 have J :∀F,ob F≠none->F≠r:=λF h e=>h (e▸hr);have K:Kept w S φ ob w S (rJ φ r none) (rJ ob r (some (.row e sz [] .no))):=by
  refine⟨λb o h=>⟨h,rfl⟩,λF h=>.inl ?_,λF h=>?_⟩
  ·rw[AO _ _ _ _ (J F h),AO _ _ _ _ (J F h)];exact⟨rfl,rfl,id⟩
  rw[AO _ _ _ _ (J F h)];exact h
 refine⟨⟨?_,?_,?_,m.sS,m.kS,m.bS,m.nS,m.fr,m.sz,?_,m.os⟩,K⟩
 ·intro F o h;by_cases H:F=r
  ·subst H;simp only[gL,X24] at h;subst h;exact⟨s7,λi M=>by simp at M,λi M=>by simp at M,.inl ⟨gL _ _ _,rfl⟩⟩
  rw[AO _ _ _ _ H] at h;exact (m.obj F o h).s9 K (AO _ _ _ _ H) (λb c hb=>⟨rfl,λ_ h=>h⟩) (m.tE F o h)
 ·intro V Y b c c' Z h2 P Q;by_cases e1:V=r
  ·subst e1;simp at P
  by_cases e2:Y=r
  ·subst e2;simp at Q
  rw[AO _ _ _ _ e1] at P Z;rw[AO _ _ _ _ e2] at Q h2;exact m.inj V Y b c c' Z h2 P Q
 ·intro F o h U hm;by_cases H:F=r
  ·subst H;simp only[gL,X24] at h;subst h;simp[OB.refs] at hm
  rw[AO _ _ _ _ H] at h;exact K.c _ (m.tE F o h U hm)
 intro F b c h g;by_cases H:F=r
 ·subst H;simp at g
 rw[AO _ _ _ _ H] at g h;exact m.ow F b c h g
def Mem.set {E:Env}{w:B}{S:Sc}{φ:Nat->C (Nat×Rp)}{ob:Nat->C OB}(m:Mem E w S φ ob)(r:Nat)(o0 x:OB)(w':B)(l:C (Nat×Rp)) (h0:ob r=some o0) (hw :∀k,k<w.heap.size->(∀c,φ r≠some (k,c))->w'.heap[k]?=w.heap[k]?) (hs:w.heap.size<=w'.heap.size) (a8:w'.os=w.os/\w'.output=w.output/\w'.tape=w.tape/\w.drawn<=w'.drawn) (aa :∀b c o,φ r=some (b,c)->S b o->cellAt w' b o=cellAt w b o) (J:l=φ r \/∃b c,l=some (b,c)/\w.heap.size<=b/\b<w'.heap.size) (hr:sW φ ob (rJ φ r l) (rJ ob r (some x)) r) (hx :∀F∈x.refs,ob F≠none) (ab:Kept w S φ ob w' S (rJ φ r l) (rJ ob r (some x))->tc S w' (rJ φ r l) (rJ ob r (some x)) r x) : Mem E w' S (rJ φ r l) (rJ ob r (some x))/\Kept w S φ ob w' S (rJ φ r l) (rJ ob r (some x)):=by
 have U:Kept w S φ ob w' S (rJ φ r l) (rJ ob r (some x)):=by
  refine⟨λb o h=>⟨h,?_⟩,λF h=>?_,λF h=>?_⟩
  ·by_cases V :∃c,φ r=some (b,c)
   ·obtain⟨c,Y⟩:=V;exact aa b c o Y h
   exact DT (hw b (m.bS b o h) λc Y=>V ⟨c,Y⟩) o
  ·by_cases H:F=r
   ·rw[H];exact hr
   refine .inl ?_;rw[AO _ _ _ _ H,AO _ _ _ _ H];exact⟨rfl,rfl,id⟩
  by_cases H:F=r
  ·rw[H];simp
  rw[AO _ _ _ _ H];exact h
 have K:ob r≠none:=by simp[h0]
 refine⟨⟨?_,?_,?_,m.sS,?_,?_,m.nS,?_,?_,?_,?_⟩,U⟩
 ·intro F o h;by_cases H:F=r
  ·subst H;simp only[gL,X24] at h;subst h;exact ab U
  rw[AO _ _ _ _ H] at h;refine (m.obj F o h).s9 U (AO _ _ _ _ H) (λb c V=>⟨hw b (m.ow F b c (by simp[h]) V).1 λQ ae=>H (m.inj F r b c Q (by simp[h]) K V ae),λ_ h=>h⟩) (m.tE F o h)
 ·intro r1 Z b c Q h1 h2 M P;by_cases e1:r1=r
  ·by_cases e2:Z=r
   ·rw[e1,e2]
   rw[e1,gL] at M;rw[AO _ _ _ _ e2] at P h2;rcases J with J|⟨b',af,J,a6,_⟩
   ·exact e1▸m.inj r Z b c Q K h2 (J▸M) P
   rw[J] at M;simp only[X24,X26] at M;have:=(m.ow Z b Q h2 P).1;omega
  by_cases e2:Z=r
  ·rw[e2,gL] at P;rw[AO _ _ _ _ e1] at M h1;rcases J with J|⟨b',af,J,a6,_⟩
   ·exact e2▸m.inj r1 r b c Q h1 K M (J▸P)
   rw[J] at P;simp only[X24,X26] at P;have:=(m.ow r1 b c h1 M).1;omega
  rw[AO _ _ _ _ e1] at M h1;rw[AO _ _ _ _ e2] at P h2;exact m.inj r1 Z b c Q h1 h2 M P
 ·intro F o h a7 hm;by_cases H:F=r
  ·subst H;simp only[gL,X24] at h;subst h;exact U.c _ (hx a7 hm)
  rw[AO _ _ _ _ H] at h;exact U.c _ (m.tE F o h a7 hm)
 ·intro b o h;exact (U.k b o (m.sS b o h)).2.trans (m.kS b o h)
 ·intro b o h;exact Xap (m.bS b o h) hs
 ·intro b h h';refine (hw b (Xap h m.sz) λc Y=>?_).trans (m.fr b h h');rcases (m.ow r b c K Y).2 with g|g
  ·omega
  exact h' g
 ·exact Xa3 m.sz hs
 ·intro F b c h g;by_cases H:F=r
  ·subst H;rw[gL] at g;rcases J with J|⟨b',Q,J,a6,ag⟩
   ·have:=m.ow F b c K (J▸g);exact⟨by omega,this.2⟩
   rw[J] at g;simp only[X24,X26] at g;have:=m.sz;exact⟨by omega,.inl (by omega)⟩
  rw[AO _ _ _ _ H] at g h;have:=m.ow F b c h g;exact⟨by omega,this.2⟩
 obtain⟨a1,a2,a3,a4⟩:=a8;obtain⟨b1,b2,b3,b4⟩:=m.os;exact⟨a1.trans b1,a2.trans b2,a3.trans b3,b4.imp_right λh=>Xa3 h a4⟩
def Mem.freeze {E:Env}{w:B}{S:Sc}{φ:Nat->C (Nat×Rp)}{ob:Nat->C OB}(m:Mem E w S φ ob)(r e sz:Nat)(es:O D)(frz:FZ) (h0:ob r=some (.row e sz es frz)) :∃S',Mem E w S' φ (rJ ob r (some (.row e sz es .sQ)))/\Kept w S φ ob w S' φ (rJ ob r (some (.row e sz es .sQ)))/\ ∀v,Hy φ r es.length v->rH S' w (.su sz es) v:=by
 let S':Sc:=λb o=>S b o \/∃c,φ r=some (b,c)/\c.2<=o/\o<c.2+es.length*sz;have H:ob r≠none:=by simp[h0]
 have hS :∀b o,S b o->S' b o:=λb o h=>.inl h;have Y:Kept w S φ ob w S' φ (rJ ob r (some (.row e sz es .sQ))):=by
  refine⟨λb o h=>⟨hS b o h,rfl⟩,λF h=>?_,λF h=>?_⟩
  ·by_cases J:F=r
   ·subst J;refine .inl ⟨rfl,?_,?_⟩
    ·simp[h0,tz]
    rintro⟨cs,a7⟩;simp at a7
   refine .inl ?_;rw[AO _ _ _ _ J];exact⟨rfl,rfl,id⟩
  by_cases J:F=r
  ·rw[J];simp
  rw[AO _ _ _ _ J];exact h
 have P:=m.obj r _ h0;refine⟨S',⟨?_,?_,?_,λb o h=>hS b o (m.sS b o h),m.kS,?_,?_,m.fr,m.sz,?_,m.os⟩,Y,?_⟩
 ·intro F o h;by_cases J:F=r
  ·subst J;simp only[gL,X24] at h;subst h;obtain⟨g0,Z,g2,g3⟩:=P;refine⟨g0,Z,g2,g3.imp id ?_⟩;rintro⟨b,a6,vs,f,f1,f2,f3,f4,f5,f6,f7,f8⟩;refine⟨b,a6,vs,f,f1,f2,f3,f4,f5,f6,λi Q j hj=>(f7 i Q j hj).mono Y.k,λo U hs=>?_,λ_ _ _ _ h=>nomatch h⟩;simp only[FZ.tG,Xdl] at U;rcases hs with hs|⟨c',K,_,hs⟩
   ·refine f8.1 o ?_ hs;cases frz<;>simp;exact U
   rw[f1] at K;simp only[X24,X26,true_and] at K;subst K;omega
  rw[AO _ _ _ _ J] at h;refine (m.obj F o h).s9 Y rfl (λb c hb=>⟨rfl,λo U=>?_⟩) (m.tE F o h);rcases U with U|⟨c',K,_⟩
  ·exact U
  exact absurd (m.inj F r b c c' (by simp[h]) H hb K) J
 ·intro r1 r2 b c c' h1 h2 Z g2;refine m.inj r1 r2 b c c' ?_ ?_ Z g2
  ·by_cases e1:r1=r
   ·rw[e1];exact H
   rwa [AO _ _ _ _ e1] at h1
  by_cases e2:r2=r
  ·rw[e2];exact H
  rwa [AO _ _ _ _ e2] at h2
 ·intro F o h a8 hm;by_cases J:F=r
  ·subst J;simp only[gL,X24] at h;subst h;simp[OB.refs] at hm
  rw[AO _ _ _ _ J] at h;exact Y.c _ (m.tE F o h a8 hm)
 ·intro b o h;rcases h with h|⟨c,hc,_⟩
  ·exact m.bS b o h
  exact (m.ow r b c H hc).1
 ·intro b o h h1 h2;rcases h with h|⟨c,hc,_⟩
  ·exact m.nS b o h h1 h2
  rcases (m.ow r b c H hc).2 with g|g
  ·omega
  exact absurd g h2
 ·intro F b c h g;refine m.ow F b c ?_ g;by_cases e1:F=r
  ·rw[e1];exact H
  rwa [AO _ _ _ _ e1] at h
 intro v hv;obtain⟨g0,Z,g2,g3⟩:=P;rcases hv with ⟨V,a2,a3,rfl⟩|⟨b,a6,V,rfl⟩
 ·have:es=[]:=Xab a2;subst this;exact .sB sz _ _
 rcases g3 with ⟨b1,rfl⟩|⟨b',M,vs,f,f1,f2,f3,f4,f5,f6,f7,f8⟩
 ·rw[b1] at V;simp at V
 rw[f1] at V;simp only[X24,X26] at V;obtain⟨rfl,rfl⟩:=V;refine .su sz es b' M.2 M.1 f (Xa3 f3 f4) f3 Z (λi j Q hj=>⟨.inr ⟨M,f1,?_,?_⟩,?_⟩) g2 λi Q j hj=>(f7 i Q j hj).mono Y.k
 ·omega
 ·have:(i+1)*sz<=es.length*sz:=X31 _ Q;rw[X32] at this;omega
 rw[BB f2,Xb9];exact f6 i j Q hj
def sW.trans {φ φ' M:Nat->C (Nat×Rp)}{ob ob' H:Nat->C OB}{r:Nat}(h:sW φ ob φ' ob' r)(k:sW φ' ob' M H r):sW φ ob M H r:=by
 rcases h with ⟨P,K,a3⟩|⟨e,sz,Y,J,V,Q,P,K,a3,a4⟩|⟨P,K,a3⟩
 ·rcases k with ⟨b1,b2,b3⟩|⟨e,sz,Y,J,V,Q,b1,b2,b3,b4⟩|⟨⟨e,sz,Y,J,b1⟩,b2,b3⟩
  ·exact .inl ⟨b1.trans P,b2.trans K,λx=>a3 (b3 x)⟩
  ·obtain⟨F,f0,Z,c2⟩:=Hz b1 K;exact .inr (.inl ⟨e,sz,F,f0,V,Q,Z,b2,by omega,λhh=>(b4 (by omega)).trans P⟩)
  obtain⟨F,f0,Z,_⟩:=Hz b1 K;exact .inr (.inr ⟨⟨e,sz,F,f0,Z⟩,b2,b3⟩)
 ·rcases k with ⟨b1,b2,b3⟩|⟨e2,ab,ae,a6,a7,U,b1,b2,b3,b4⟩|⟨_,b2,b3⟩
  ·obtain⟨F,f0,Z,c2⟩ :∃F f0,H r=some (.row e sz F f0)/\F.length=V.length:=by
    rw[K] at b2;cases a8:H r with
    | none=>rw[a8] at b2;simp[tz] at b2
    | some o=>
     rw[a8] at b2;cases o with
     | box cs=>simp[tz] at b2
     | map=>simp[tz] at b2
     | rK=>simp[tz] at b2
     | gone=>simp[tz] at b2
     | row e' ag aa f=>simp[tz] at b2;exact⟨aa,f,by simp[b2],b2.2.2⟩
   exact .inr (.inl ⟨e,sz,Y,J,F,f0,P,Z,by omega,λhh=>b1.trans (a4 (by omega))⟩)
  ·rw[K] at b1;simp only[X24,OB.row.injEq] at b1;obtain⟨rfl,rfl,rfl,rfl⟩:=b1;exact .inr (.inl ⟨e,sz,Y,J,a7,U,P,b2,by omega,λhh=>(b4 (by omega)).trans (a4 (by omega))⟩)
  exact .inr (.inr ⟨⟨e,sz,Y,J,P⟩,b2,b3⟩)
 rcases k with ⟨b1,b2,b3⟩|⟨e2,ab,ae,a6,a7,U,b1,b2,b3,b4⟩|⟨⟨e,sz,Y,J,b1⟩,_⟩
 ·exact .inr (.inr ⟨P,b2.trans K,λcs hx=>by
   obtain⟨af,h'⟩:=b3 ⟨cs,hx⟩
   exact a3 af h'⟩)
 ·exact absurd b1 (RH K _ _ _ _)
 exact absurd b1 (RH K _ _ _ _)
def Kept.trans {w w' J:B}{S S' K:Sc}{φ φ' F:Nat->C (Nat×Rp)}{ob ob' H:Nat->C OB}(h:Kept w S φ ob w' S' φ' ob')(k:Kept w' S' φ' ob' J K F H) : Kept w S φ ob J K F H:=
 ⟨λb o P=>⟨(k.k b o (h.k b o P).1).1,(k.k b o (h.k b o P).1).2.trans (h.k b o P).2⟩,λr M=>(h.r r M).trans (k.r r (h.c r M)),λr M=>k.c r (h.c r M)⟩
end Go.AX
end
