/-
  Texts of one proof, packed.
-/
import Derived.Test.YthbbpeeghmpcfaaGreatDoorR0
import Derived.Deep.MidRow
import Derived.Laws.AppendOwn
set_option linter.all false
set_option maxRecDepth 100000
set_option maxHeartbeats 4000000
open List renaming length_map→X1,length_append→X2,mem_singleton→X11,length_drop→X14,length_take→X15,length_replicate→X17,length_set→X18,mem_append→X20
open Option.some renaming injEq→X21
open Prod.mk renaming injEq→X23
open Nat renaming mul_le_mul_right→X28,add_mul→X29
open Go renaming MapEntry→Xcq,maxLen→Xc7
section
namespace Go.AX
def FQ {α:Type}(l:O α)(n:Nat)(v:α)(K:O α->Prop):MH l n v K↔K (l.set n v):=by
 induction l generalizing n K with
 | nil=>simp[MH]
 | cons x l F=>cases n<;>simp[MH,F]
def HJ {α:Type}(l:O α)(n:Nat)(K:O α->Prop):Qm l n K↔K (l.drop n):=by
 induction l generalizing n with
 | nil=>cases n<;>simp[Qm]
 | cons x l F=>cases n<;>simp[Qm,F]
def Ge {α:Type}(l:O α)(n:Nat)(K:O α->Prop):O5 l n K↔K (l.take n):=by
 induction l generalizing n K with
 | nil=>cases n<;>simp[O5]
 | cons x l F=>cases n<;>simp[O5,F]
def HS {α:Type}(F:O α)(n:Nat)(vs:O α)(K:O α->Prop) : OT F n vs K↔n+vs.length<=F.length/\K (F.take n++vs++F.drop (n+vs.length)):=by
 induction F generalizing n vs K with
 | nil=>cases n<;>cases vs<;>simp[OT]
 | cons c F H=>
  cases n with
  | zero=>cases vs<;>simp[OT,H]
  | succ n=>simp[OT,H,Nat.add_right_comm]
@[simp] theorem AI (b:I)(P:Prop):AS b P↔b=true/\P:=by cases b<;>simp[AS]
def BU (a:AV)(K:AV->Prop):a.force K↔K a:=by cases a<;>rfl
def FU (x:D)(K:D->Prop):Qw x K↔K x.norm:=by
 cases x with
 | agg F=>
  simp only[Qw,D.norm];induction F generalizing K with
  | nil=>simp[Ru]
  | cons c F H=>
   simp only[Ru,Xbk];cases c<;>simp only<;>exact H λx=>match x with
    | .agg l=>K (.agg (_::l))
    | x=>K x
 | _=>simp[Qw,D.norm]
def Ao (ob:O (C OB))(r:Nat)(K:OB->Prop):Cc ob r K ↔∃o,ob.getD r none=some o/\K o:=by
 unfold Cc;cases ob.getD r none with
 | none=>simp
 | some o=>cases o<;>simp
def En (ob:O (C OB))(r:Nat)(K:Prop):Ms ob r K↔ob[r]?=some none/\K:=by
 unfold Ms;cases ob[r]? with
 | none=>simp
 | some o=>cases o<;>simp
def jP (F:O AV):AV:=match VJ F with
 | some l=>.d (.agg l)
 | none=>.agg F
def HG (F:O AV)(K:AV->Prop):Vz F K↔K (jP F):=by unfold Vz jP;cases VJ F<;>rfl
def iS :∀(H:O AV) (l:O D),VJ H=some l->H=l.map .d
 | [],l,h=>by simp[VJ] at h;simp[<- h]
 | a::r,l,h=>by
  cases a<;>simp[VJ] at h;rename_i x;cases F:VJ r with
  | none=>simp[F] at h
  | some J=>simp[F] at h;subst h;simp[iS r J F]
def JV:O D->C (O AV)
 | []=>some []
 | c::F=>match c.isAgg,JV F with
  | false,some l=>some (.d c::l)
  | _,_=>none
def Nc :∀(F:O D) (l:O AV),JV F=some l->l=F.map .d/\∀c∈F,c.isAgg=false
 | [],l,h=>by simp[JV] at h;simp[<- h]
 | c::F,l,h=>by
  simp only[JV] at h;split at h
  ·rename_i J h1 K;obtain⟨M,P⟩:=Nc F J K;simp only[X21] at h;subst h M;refine⟨rfl,λx H=>?_⟩;cases H with
   | head=>exact h1
   | tail _ H=>exact P x H
  simp at h
def C2:AV->C (O AV)
 | .d (.agg F)=>JV F
 | .d x=>some [.d x]
 | .agg F=>some F
 | .ref r o=>some [.ref r o]
 | .own r n=>some [.own r n]
 | .mp r=>some [.mp r]
 | .fn f c=>some [.fn f c]
 | _=>none
def HM (a:AV)(K:O AV->Prop):Nn a K ↔∃l,C2 a=some l/\K l:=by
 cases a with
 | d x=>
  cases x with
  | agg F=>
   simp only[Nn,C2];induction F generalizing K with
   | nil=>simp[Ru,JV]
   | cons c F H=>cases c<;>simp only[Ru,H,JV,D.isAgg]<;>cases h:JV F<;>simp
  | _=>simp[Nn,C2]
 | _=>simp[Nn,C2]
abbrev Sc:=Nat->Nat->Prop
def cellAt (w:B)(b o:Nat):C A:=w.cell? ⟨b,o,none⟩
inductive zf (S:Sc)(w:World):D->Value->Prop
 | val (v:Value) (h:v.oneCell'=true):zf S w (.val v) v
 | agg (cs:List D) (vs:Array Value) (f:Nat->Value) (hs:vs.size=cs.length) (hf :∀i,i<cs.length->vs[i]?=some (f i))
   (hn :∀i (hi:i<cs.length),cs[i].isAgg=false) (h :∀i (hi:i<cs.length),zf S w cs[i] (f i)):zf S w (.agg cs) (.agg vs)
 | nil (sz:Nat):zf S w (.nil sz) (.slice none 0 0)
 | zZ (sz:Nat) (a:Option Addr) (cap:Nat):zf S w (.Cg sz []) (.slice a 0 cap)
 | Cg (sz:Nat) (es:List D) (b o cap:Nat) (f:Nat->Nat->Value) (hl:es.length<=maxLen) (hc:es.length<=cap) (zx :∀i (hi:i<es.length),es[i].cells.length=sz)
   (hS :∀i j,i<es.length->j<sz->S b (o+i*sz+j)/\cellAt w b (o+i*sz+j)=some (f i j))
   (hn :∀i (hi:i<es.length) j (hj:j<es[i].cells.length),es[i].cells[j].isAgg=false)
   (h :∀i (hi:i<es.length) j (hj:j<es[i].cells.length),zf S w es[i].cells[j] (f i j)):zf S w (.Cg sz es) (.slice (some ⟨b,o,none⟩) es.length cap)
abbrev Rp:=Nat×Nat
def JF (φ:Nat->C (Nat×Rp))(r n:Nat)(v:A):Prop:=
 (φ r=none/\n=0/\∃a,v=.slice a 0 0) \/∃b F,φ r=some (b,F)/\v=.slice (some ⟨b,F.2,none⟩) n F.1
inductive kI (S:Sc)(w:World)(φ:Nat->Option (Nat×Rp))(ob:Nat->Option OB):AV->Value->Prop
 | d (x:D) (v:Value) (h:zf S w x v):kI S w φ ob (.d x) v
 | agg (cs:List AV) (vs:Array Value) (f:Nat->Value) (hs:vs.size=cs.length) (hf :∀i,i<cs.length->vs[i]?=some (f i))
   (hn :∀i (hi:i<cs.length),cs[i].one=true) (h :∀i (hi:i<cs.length),kI S w φ ob cs[i] (f i)):kI S w φ ob (.agg cs) (.agg vs)
 | Ca (cs:List AV) (vs:Array Value) (f:Nat->Value) (hs:vs.size=cs.length) (hf :∀i,i<cs.length->vs[i]?=some (f i))
   (h :∀i (hi:i<cs.length),kI S w φ ob cs[i] (f i)):kI S w φ ob (.Ca cs) (.tuple vs)
 | ref (r off b:Nat) (c:Rp) (h:φ r=some (b,c)) (hb :∀e sz es frz,ob r≠some (.row e sz es frz)):kI S w φ ob (.ref r off) (.pointer (some ⟨b,off,none⟩))
 | DM (cs:List D) (b o:Nat) (f:Nat->Value) (hS :∀j,j<cs.length->S b (o+j)/\cellAt w b (o+j)=some (f j))
   (hn :∀j (hj:j<cs.length),cs[j].isAgg=false) (h :∀j (hj:j<cs.length),zf S w cs[j] (f j)):kI S w φ ob (.DM cs) (.pointer (some ⟨b,o,none⟩))
 | own (r n:Nat) (v:Value) (k c:Nat) (a0:Option Addr) (hv:v=.slice a0 k c) (hk:k=n)
   (h :∀e sz es frz,ob r=some (.row e sz es frz)->n<=es.length/\(n=es.length->JF φ r n v)) (hb :∀cs,ob r=some (.box cs)->n=1/\∃b c,φ r=some (b,c)/\v=.slice (some ⟨b,0,none⟩) 1 1):kI S w φ ob (.own r n) v
 | Bp (r n i k:Nat) (v:Value) (h :∀e sz es frz,ob r=some (.row e sz es frz)->n<=es.length/\(n=es.length->i<n/\∃b c,φ r=some (b,c)/\v=.pointer (some ⟨b,c.2+(i*sz+k),none⟩)))
   (hb :∀cs,ob r=some (.box cs)->∃b c,φ r=some (b,c)/\v=.pointer (some ⟨b,k+i,none⟩)) (hp :∃a,v=.pointer (some a)):kI S w φ ob (.Bp r n i k) v
 | Fc (r a n m:Nat) (v:Value) (k c:Nat) (a0:Option Addr) (hv:v=.slice a0 k c) (hk:k=n)
   (h :∀e sz es frz,ob r=some (.row e sz es frz)->m<=es.length/\(m=es.length->a+n<=m/\(n=0 \/∃b cap c',φ r=some (b,cap)/\v=.slice (some ⟨b,cap.2+a*sz,none⟩) n c'/\n<=c')/\(a=0->JF φ r n v))):kI S w φ ob (.Fc r a n m) v
 | mp (r b:Nat) (c:Rp) (h:φ r=some (b,c)) (hb :∀e sz es frz,ob r≠some (.row e sz es frz)) (hc :∀cs,ob r≠some (.box cs)):kI S w φ ob (.mp r) (.map (some b))
 | it (f:FuncId) (r b:Nat) (c:Rp) (B:Nat) (h:φ r=some (b,c)) (hb :∀e sz es frz,ob r≠some (.row e sz es frz)) (hc :∀cs,ob r≠some (.box cs)) (hS:S B 0) (hm:cellAt w B 0=some (.map (some b))) :
   kI S w φ ob (.it f r) (.func (.func f) #[] #[.pointer (some ⟨B,0,none⟩)])
 | fn (f:FuncId) (cs:List AV) (vs:Array Value) (g:Nat->Value) (hs:vs.size=cs.length) (hf :∀i,i<cs.length->vs[i]?=some (g i))
   (h :∀i (hi:i<cs.length),kI S w φ ob cs[i] (g i)):kI S w φ ob (.fn f cs) (.func (.func f) #[] vs)
 | gl (g:Nat):kI S w φ ob (.gl g) (.pointer (some ⟨g,0,none⟩))
 | gv (g:Nat) (v:Value) (hS:S g 0) (hv:cellAt w g 0=some v):kI S w φ ob (.gv g) v
 | dead (v:Value):kI S w φ ob .dead v
def PQ (S:Sc)(w:B)(S':Sc)(w':B):Prop:=∀b o,S b o->S' b o/\cellAt w' b o=cellAt w b o
def zf.mono {S S':Sc}{w w':B}(Q:PQ S w S' w'){x:D}{v:A}(h:zf S w x v):zf S' w' x v:=by
 induction h with
 | val v h=>exact .val v h
 | agg U vs f V Y H _ J=>exact .agg U vs f V Y H J
 | nil sz=>exact .nil sz
 | zZ sz a F=>exact .zZ sz a F
 | Cg sz Z b o F f hl hc zx K H _ J=>exact .Cg sz Z b o F f hl hc zx (λi j M P=>⟨(Q _ _ (K i j M P).1).1,(Q _ _ (K i j M P).1).2.trans (K i j M P).2⟩) H J
def Ga:C OB->C (Nat×Nat×Nat)
 | some (.row e sz es _)=>some (e,sz,es.length)
 | _=>none
def DS (φ:Nat->C (Nat×Rp))(ob:Nat->C OB)(φ':Nat->C (Nat×Rp))(ob':Nat->C OB)(r:Nat):Prop:=
 (φ' r=φ r/\Ga (ob' r)=Ga (ob r)/\((∃J,ob' r=some (.box J))->∃J,ob r=some (.box J))) \/
 (∃e sz K F H M,ob r=some (.row e sz K F)/\ob' r=some (.row e sz H M)/\K.length<=H.length/\(H.length=K.length->φ' r=φ r)) \/
 ((∃e sz K F,ob r=some (.row e sz K F))/\Ga (ob' r)=none/\∀J,ob' r≠some (.box J))
def JI {o:C OB}{e sz:Nat}{es:O D}{frz:FZ}{o':C OB}(h:o'=some (.row e sz es frz))(F:Ga o'=Ga o) : ∃H f,o=some (.row e sz H f)/\H.length=es.length:=by
 subst h;cases o with
 | none=>simp[Ga] at F
 | some o=>
  cases o with
  | box M=>simp[Ga] at F
  | map=>simp[Ga] at F
  | zj=>simp[Ga] at F
  | gone=>simp[Ga] at F
  | row P K J f=>simp[Ga] at F;exact⟨J,f,by simp[F],F.2.2.symm⟩
def Ux {o:C OB}(h:Ga o=none)(e sz:Nat)(es:O D)(frz:FZ):o≠some (.row e sz es frz):=by rintro rfl;simp[Ga] at h
def kI.mono {S S':Sc}{w w':World}{φ φ':Nat->C (Nat×Rp)}{ob ob':Nat->C OB}(hk:PQ S w S' w'){a:AV}{v:A}(h:kI S w φ ob a v) (hr :∀r,r∈a.refs->DS φ ob φ' ob' r):kI S' w' φ' ob' a v:=by
 have hl :∀(K:O AV) (i:Nat) (hi:i<K.length) (r:Nat),r∈K[i].refs->r∈AV.refs.refsL K:=by
  intro K;induction K with
  | nil=>intro i hi;simp at hi
  | cons c K ih=>
   intro i hi r hm;simp only[AV.refs.refsL,X20];cases i with
   | zero=>exact .inl hm
   | succ i=>exact .inr (ih i (by simpa using hi) r hm)
 induction h with
 | d x v h=>exact .d x v (h.mono hk)
 | agg K vs f hs hf hn _ ih=>exact .agg K vs f hs hf hn λi hi=>ih i hi λr hm=>hr r (hl K i hi r hm)
 | Ca K vs f hs hf _ ih=>exact .Ca K vs f hs hf λi hi=>ih i hi λr hm=>hr r (hl K i hi r hm)
 | ref r af b c h Y=>
  rcases hr r (by simp[AV.refs]) with ⟨J,M,_⟩|⟨e,sz,P,H,_,_,J,_⟩|⟨⟨e,sz,P,H,J⟩,_⟩;rotate_left 2
  ·exact absurd J (Y _ _ _ _)
  ·refine .ref r af b c (J.trans h) λe sz P H F=>?_;obtain⟨U,f,Z,_⟩:=JI F M;exact Y _ _ _ _ Z
  exact absurd J (Y _ _ _ _)
 | mp r b c h Y hc=>
  rcases hr r (by simp[AV.refs]) with ⟨J,M,Q⟩|⟨e,sz,P,H,_,_,J,_⟩|⟨⟨e,sz,P,H,J⟩,_⟩;rotate_left 2
  ·exact absurd J (Y _ _ _ _)
  ·refine .mp r b c (J.trans h) (λe sz P H F=>?_) λK F=>?_
   ·obtain⟨U,f,Z,_⟩:=JI F M;exact Y _ _ _ _ Z
   obtain⟨a6,h'⟩:=Q ⟨K,F⟩;exact hc a6 h'
  exact absurd J (Y _ _ _ _)
 | it f r b c B h Y hc hS hm=>
  rcases hr r (by simp[AV.refs]) with ⟨J,M,Q⟩|⟨e,sz,P,H,_,_,J,_⟩|⟨⟨e,sz,P,H,J⟩,_⟩;rotate_left 2
  ·exact absurd J (Y _ _ _ _)
  ·refine .it f r b c B (J.trans h) (λe sz P H F=>?_) (λK F=>?_) (hk _ _ hS).1 ((hk _ _ hS).2.trans hm)
   ·obtain⟨U,f,Z,_⟩:=JI F M;exact Y _ _ _ _ Z
   obtain⟨a6,h'⟩:=Q ⟨K,F⟩;exact hc a6 h'
  exact absurd J (Y _ _ _ _)
 | DM K b o f hS hn h=>exact .DM K b o f (λj hj=>⟨(hk _ _ (hS j hj).1).1,(hk _ _ (hS j hj).1).2.trans (hS j hj).2⟩) hn λj hj=>(h j hj).mono hk
 | own r n v k c a0 hv a7 h Y=>
  rcases hr r (by simp[AV.refs]) with ⟨J,M,Q⟩|⟨e,sz,P,H,a8,aa,J,M,Q,h4⟩|⟨_,M,Q⟩;rotate_left 2
  ·exact .own r n v k c a0 hv a7 (λe sz P H F=>absurd F (Ux M _ _ _ _)) λK F=>absurd F (Q K)
  ·refine .own r n v k c a0 hv a7 (λe sz P H F=>?_) λK F=>?_
   ·obtain⟨U,f,Z,V⟩:=JI F M;obtain⟨g1,g2⟩:=h _ _ _ _ Z;refine⟨V▸g1,λhn=>?_⟩;have:=g2 (V▸hn);unfold JF at *;rwa [J]
   obtain⟨a6,h'⟩:=Q ⟨K,F⟩;rw[J];exact Y a6 h'
  refine .own r n v k c a0 hv a7 (λe0 ae U ab F=>?_) λK F=>by rw[M] at F;simp at F
  rw[M] at F;simp only[X21,OB.row.injEq] at F;obtain⟨rfl,rfl,rfl,rfl⟩:=F;obtain⟨g1,g2⟩:=h _ _ _ _ J;refine⟨Xay g1 Q,λhn=>?_⟩;have he:a8.length=P.length:=by omega
  have:=g2 (by omega);unfold JF at *;rwa [h4 he]
 | Bp r n i k v h Y hp=>
  rcases hr r (by simp[AV.refs]) with ⟨J,M,Q⟩|⟨e,sz,P,H,a8,aa,J,M,Q,h4⟩|⟨_,M,Q⟩;rotate_left 2
  ·exact .Bp r n i k v (λe sz P H F=>absurd F (Ux M _ _ _ _)) (λK F=>absurd F (Q K)) hp
  ·refine .Bp r n i k v (λe sz P H F=>?_) (λK F=>?_) hp
   ·obtain⟨U,f,Z,V⟩:=JI F M;obtain⟨g1,g2⟩:=h _ _ _ _ Z;refine⟨V▸g1,λhn=>?_⟩;have:=g2 (V▸hn);rwa [J]
   obtain⟨a6,h'⟩:=Q ⟨K,F⟩;rw[J];exact Y a6 h'
  refine .Bp r n i k v (λe0 ae U ab F=>?_) (λK F=>by rw[M] at F;simp at F) hp;rw[M] at F;simp only[X21,OB.row.injEq] at F;obtain⟨rfl,rfl,rfl,rfl⟩:=F;obtain⟨g1,g2⟩:=h _ _ _ _ J;refine⟨Xay g1 Q,λhn=>?_⟩;have he:a8.length=P.length:=by omega
  have:=g2 (by omega);rwa [h4 he]
 | Fc r a n m v k c a0 hv a7 h=>
  rcases hr r (by simp[AV.refs]) with ⟨J,M,Q⟩|⟨e,sz,P,H,a8,aa,J,M,Q,h4⟩|⟨_,M,Q⟩
  ·refine .Fc r a n m v k c a0 hv a7 λe sz P H F=>?_;obtain⟨U,f,Z,V⟩:=JI F M;obtain⟨g1,g2⟩:=h _ _ _ _ Z;refine⟨V▸g1,λhn=>?_⟩;have:=g2 (V▸hn);refine⟨this.1,by rw[J];exact this.2.1,λZ=>?_⟩;have:=this.2.2 Z;unfold JF at *;rwa [J]
  ·refine .Fc r a n m v k c a0 hv a7 λe0 ae U ab F=>?_;rw[M] at F;simp only[X21,OB.row.injEq] at F;obtain⟨rfl,rfl,rfl,rfl⟩:=F;obtain⟨g1,g2⟩:=h _ _ _ _ J;refine⟨Xay g1 Q,λhn=>?_⟩;have he:a8.length=P.length:=by omega
   have:=g2 (by omega);refine⟨this.1,by rw[h4 he];exact this.2.1,λZ=>?_⟩;have:=this.2.2 Z;unfold JF at *;rwa [h4 he]
  exact .Fc r a n m v k c a0 hv a7 λe sz P H F=>absurd F (Ux M _ _ _ _)
 | fn f K vs g hs hf _ ih=>exact .fn f K vs g hs hf λi hi=>ih i hi λr hm=>hr r (hl K i hi r hm)
 | gl g=>exact .gl g
 | gv g v hS hv=>exact .gv g v (hk _ _ hS).1 ((hk _ _ hS).2.trans hv)
 | dead v=>exact .dead v
def zf.one {S:Sc}{w:B}{x:D}{v:A}(h:zf S w x v)(F:x.isAgg=false):v.oneCell'=true:=by cases h<;>first|assumption|rfl|simp[D.isAgg] at F
def kI.one {S:Sc}{w:B}{φ:Nat->C (Nat×Rp)}{ob:Nat->C OB}{a:AV}{v:A}(h:kI S w φ ob a v)(F:a.one=true):v.oneCell'=true:=by
 cases h<;>simp[AV.one] at F;case d h=>exact h.one F
 case own=>subst_vars;rfl
 case Fc=>subst_vars;rfl
 case Bp H=>obtain⟨a,rfl⟩:=H;rfl
 all_goals rfl
def zp (S:Sc)(w:B)(es:O (D×D))(l:O Xcq):Prop:=
 l.length=es.length/\∀i (F:i<es.length),∃x,l[i]?=some x/\(∃u,es[i].1=.val u/\x.key=u/\u.oneCell'=true)/\zf S w es[i].2 x.val
structure WL where
 wl:Prop
 G:Nat->Option (List (D×D))
def WL.low (W:WL):WL:=⟨False,W.G⟩
def WL.plain:WL:=⟨True,λ_=>none⟩
def WL.gf (W:WL)(gb:Nat->Prop)(w:B):Prop:=∀g J,W.G g=some J->gb g/\∃b arr F H,gb b/\cellAt w g 0=some (.map (some b))/\w.heap[b]?=some (.map arr F)/\(∀tk x q,BG tk x J=some q->BG tk x H=some q)/\zp (λ_ _=>False) w H arr.toList
def WL.ext (W:WL)(gb:Nat->Prop)(w w':B)(h :∀b,gb b->w'.heap[b]?=w.heap[b]?)(hg:W.gf gb w):W.gf gb w':=by
 intro g P Q;obtain⟨J,b,arr,F,H,K,U,V,Y,M⟩:=hg g P Q;refine⟨J,b,arr,F,H,K,?_,(h b K).trans V,Y,M.1,λi Z=>?_⟩
 ·rw[<- U];simp[cellAt,World.cell?,h g J]
 obtain⟨x,e1,e2,e3⟩:=M.2 i Z;exact⟨x,e1,e2,e3.mono λ_ _ hf=>hf.elim⟩
structure GS (W:WL)(gb PB:Nat->Prop)(S:Sc)(w:World):Prop where
 gf:W.gf gb w
 lt :∀b,gb b->b<w.heap.size
 pb :∀b,gb b->¬ PB b
 st :∀b o,gb b->cellAt w b o≠none->S b o
structure Env where
 w0:World
 S0:Sc
 PB:Nat->Prop
 wl:WL
 gb:Nat->Prop
 hg:GS wl gb PB S0 w0
def Ev (F:A)(Q:A->Prop):O Xcq->Prop
 | []=>Q (.slice none 0 0)
 | x::l=>(x.key=F->Q x.val)/\(x.key≠F->Ev F Q l)
def Ev.imp {F:A}{Q H:A->Prop}(h :∀v,Q v->H v) :∀{l:O Xcq},Ev F Q l->Ev F H l
 | [],a=>h _ a
 | _::_,a=>⟨λe=>h _ (a.1 e),λe=>(a.2 e).imp h⟩
def Cu (arr:Array Xcq)(F:Nat):Prop:=(∀x∈arr.toList,x.born<F)/\(arr.toList.map (·.born)).Nodup
def Cu.empty (c:Nat):Cu #[] c:=⟨λx F=>by simp at F,by simp⟩
def Cu.push {arr:Array Xcq}{c:Nat}(h:Cu arr c)(k v:A):Cu (arr.push ⟨k,v,c⟩) (c+1):=by
 refine⟨λx F=>?_,?_⟩
 ·rw[Array.toList_push,X20] at F;rcases F with F|F
  ·exact Nat.lt_succ_of_lt (h.1 x F)
  rw[X11.1 F];exact Nat.lt_succ_self _
 rw[Array.toList_push,List.map_append,Xdi];refine⟨h.2,by simp,λa H b J e=>?_⟩;obtain⟨x,F,rfl⟩:=Xau.1 H;have:=h.1 x F;simp only[Xbk,List.map_nil,X11] at J;omega
def Cu.modify {arr:Array Xcq}{c:Nat}(h:Cu arr c)(j:Nat)(f:Xcq->Xcq)(F :∀x,(f x).born=x.born):Cu (arr.modify j f) c:=by
 have e:(arr.modify j f).toList.map (·.born)=arr.toList.map (·.born):=by
  apply List.ext_getElem
  ·simp
  intro i M P;simp only[Xb6,Array.getElem_toList,Array.getElem_modify];split
  ·exact F _
  rfl
 refine⟨λx H=>?_,by rw[e];exact h.2⟩;have:x.born∈(arr.modify j f).toList.map (·.born):=Xau.2 ⟨x,H,rfl⟩;rw[e] at this;obtain⟨y,J,K⟩:=Xau.1 this;rw[<- K];exact h.1 y J
def F1 (S:Sc)(w:B)(φ:Nat->C (Nat×Rp))(ob:Nat->C OB)(r:Nat):OB->Prop
 | .box K=>∃b c vs e,∃f:Nat->A,φ r=some (b,c)/\w.heap[b]?=some (.cells vs e (0,0))/\vs.size=K.length/\(∀o,¬ S b o)/\
   (∀j,j<K.length->vs[j]?=some (f j))/\(∀j (Q:j<K.length),K[j].one=true/\kI S w φ ob K[j] (f j))
 | .row e sz F M=>0<sz/\(∀i (P:i<F.length),F[i].cells.length=sz)/\(∀i (P:i<F.length) j (Q:j<F[i].cells.length),F[i].cells[j].isAgg=false)/\
   ((φ r=none/\F=[]) \/∃b J vs,∃f:Nat->Nat->A,φ r=some (b,J)/\w.heap[b]?=some (.cells vs e (0,0))/\F.length<=J.1/\J.1<=Xc7/\J.2+J.1*sz<=vs.size/\ (∀i j,i<F.length->j<sz->vs[J.2+(i*sz+j)]?=some (f i j))/\(∀i (P:i<F.length) j (Q:j<F[i].cells.length),zf S w F[i].cells[j] (f i j))/\ (∀o,(if M.frozen then J.2+F.length*sz else 0)<=o->¬ S b o)/\∀i j q n,M=.lk i j q n->i<F.length->j<sz->kI S w φ ob (.own q n) (f i j))
 | .gone=>True
 | .map _ _ F=>∃b c arr H,φ r=some (b,c)/\w.heap[b]?=some (.map arr H)/\(arr.size=F.length/\Cu arr H)/\(∀o,¬ S b o)/\
   ∀i (P:i<F.length),∃x:Xcq,arr[i]?=some x/\(∃u,F[i].1=.val u/\x.key=u/\u.oneCell'=true)/\zf S w F[i].2 x.val
 | .zj _ _ F U V n=>∃b c arr H,φ r=some (b,c)/\w.heap[b]?=some (.map arr H)/\(arr.size=F.length/\Cu arr H)/\(∀o,¬ S b o)/\
   (∀i (P:i<F.length),∃x:Xcq,arr[i]?=some x/\(∃u,F[i].1=.val u/\x.key=u/\u.oneCell'=true)/\zf S w F[i].2 x.val)/\
   Ev U (kI S w φ ob (.own V n)) arr.toList
structure Mem (E:Env)(w:World)(S:Sc)(φ:Nat->Option (Nat×Rp))(ob:Nat->Option OB):Prop where
 obj :∀r o,ob r=some o->F1 S w φ ob r o
 inj :∀r r' b c c',ob r≠none->ob r'≠none->φ r=some (b,c)->φ r'=some (b,c')->r=r'
 GJ :∀r o,ob r=some o->∀r'∈o.refs,ob r'≠none
 sS :∀b o,E.S0 b o->S b o
 kS :∀b o,E.S0 b o->cellAt w b o=cellAt E.w0 b o
 bS :∀b o,S b o->b<w.heap.size
 nS :∀b o,S b o->b<E.w0.heap.size->¬ E.PB b->E.S0 b o
 fr :∀b,b<E.w0.heap.size->¬ E.PB b->w.heap[b]?=E.w0.heap[b]?
 sz:E.w0.heap.size<=w.heap.size
 ow :∀r b c,ob r≠none->φ r=some (b,c)->b<w.heap.size/\(E.w0.heap.size<=b\/E.PB b)
 os:w.os=E.w0.os/\w.output=E.w0.output/\w.tape=E.w0.tape/\(E.wl.wl\/E.w0.drawn<=w.drawn)
def Mem.T7 {E:Env}{w:B}{S:Sc}{φ:Nat->C (Nat×Rp)}{ob:Nat->C OB}(m:Mem E w S φ ob){PB:Nat->Prop}(h :∀b,PB b->∃r c,ob r≠none/\φ r=some (b,c)) : GS E.wl E.gb PB S w:=by
 obtain⟨M,H,J,P⟩:=E.hg;have e :∀b,E.gb b->w.heap[b]?=E.w0.heap[b]?:=λb F=>m.fr b (H b F) (J b F);refine⟨E.wl.ext _ _ _ e M,λb F=>Xb4 (H b F) m.sz,λb F Q=>?_,λb o F U=>m.sS b o (P b o F ?_)⟩
 ·obtain⟨r,c,q3,q4⟩:=h b Q;rcases (m.ow r b c q3 q4).2 with K|K
  ·have:=H b F;omega
  exact J b F K
 intro V;apply U;rw[<- V];simp[cellAt,World.cell?,e b F]
def oA (ob:Nat->C OB)(a:AV):Prop:=∀r∈a.refs,ob r≠none
structure Kept (w:World)(S:Sc)(φ:Nat->Option (Nat×Rp))(ob:Nat->Option OB)(w':World)(S':Sc)(φ':Nat->Option (Nat×Rp))(ob':Nat->Option OB):Prop where
 k:PQ S w S' w'
 r :∀r,ob r≠none->DS φ ob φ' ob' r
 c :∀r,ob r≠none->ob' r≠none
def Kept.Ke {w w':B}{S S':Sc}{φ φ':Nat->C (Nat×Rp)}{ob ob':Nat->C OB}(h:Kept w S φ ob w' S' φ' ob'){a:AV}{v:A} (F:oA ob a) (H:kI S w φ ob a v):kI S' w' φ' ob' a v:=H.mono h.k λr J=>h.r r (F r J)
def Kept.closed {w w':B}{S S':Sc}{φ φ':Nat->C (Nat×Rp)}{ob ob':Nat->C OB}(h:Kept w S φ ob w' S' φ' ob'){a:AV} (F:oA ob a):oA ob' a:=λr H=>h.c r (F r H)
def DS.refl (φ:Nat->C (Nat×Rp))(ob:Nat->C OB)(r:Nat):DS φ ob φ ob r:=.inl ⟨rfl,rfl,id⟩
def Kept.refl (w:B)(S:Sc)(φ:Nat->C (Nat×Rp))(ob:Nat->C OB):Kept w S φ ob w S φ ob:=
 ⟨λ_ _ h=>⟨h,rfl⟩,λr _=>.refl φ ob r,λ_ h=>h⟩
def zg {α:Type}(f:Nat->α)(r:Nat)(x:α):Nat->α:=λi=>if i=r then x else f i
@[simp] theorem gS {α:Type}(f:Nat->α)(r:Nat)(x:α):zg f r x r=x:=by simp[zg]
def AO {α:Type}(f:Nat->α)(r i:Nat)(x:α)(h:i≠r):zg f r x i=f i:=by simp[zg,h]
def BB {w:B}{b:Nat}{vs:Array A}{e:Nat}{fr:Nat×Nat}(h:w.heap[b]?=some (.cells vs e fr))(o:Nat):cellAt w b o=vs[o]?:=by simp[cellAt,World.cell?,h]
def HI (w:B)(o:Obj){b:Nat}(h:b<w.heap.size):(w.alloc o).heap[b]?=w.heap[b]?:=by show (w.heap.push o)[b]?=_;rw[Array.getElem?_push,Xa1 (by omega)]
def CL {w w':B}{b:Nat}(h:w'.heap[b]?=w.heap[b]?)(o:Nat):cellAt w' b o=cellAt w b o:=by simp[cellAt,World.cell?,h]
def F1.zV {w w':B}{S S':Sc}{φ φ':Nat->C (Nat×Rp)}{ob ob':Nat->C OB}(hk:Kept w S φ ob w' S' φ' ob'){r:Nat}{o:OB} (h:F1 S w φ ob r o) (J:φ' r=φ r) (M :∀b c,φ r=some (b,c)->w'.heap[b]?=w.heap[b]?/\∀o,S' b o->S b o) (hc :∀U∈o.refs,ob U≠none):F1 S' w' φ' ob' r o:=by
 cases o with
 | box P=>
  obtain⟨b,c,vs,e,f,H,V,Y,h4,h5,h6⟩:=h;have Z :∀(P:O AV) (j:Nat) (Q:j<P.length) (r:Nat),r∈P[j].refs->r∈AV.refs.refsL P:=by
   intro P;induction P with
   | nil=>intro i K;simp at K
   | cons c P ih=>
    intro i K r hm;simp only[AV.refs.refsL,X20];cases i with
    | zero=>exact .inl hm
    | succ i=>exact .inr (ih i (by simpa using K) r hm)
  exact⟨b,c,vs,e,f,J.trans H,(M b c H).1.trans V,Y,λo ho=>h4 o ((M b c H).2 o ho),h5, λj Q=>⟨(h6 j Q).1,hk.Ke (λU a7=>hc U (Z P j Q U a7)) (h6 j Q).2⟩⟩
 | row e sz es a8=>obtain⟨h0,H,V,Y⟩:=h;refine⟨h0,H,V,Y.imp (λg=>⟨J.trans g.1,g.2⟩) ?_⟩;rintro⟨b,a6,vs,f,g1,g2,g3,g4,g5,g6,g7,g8⟩;exact⟨b,a6,vs,f,J.trans g1,(M b a6 g1).1.trans g2,g3,g4,g5,g6,λi K j Q=>(g7 i K j Q).mono hk.k,⟨λo ho hs=>g8.1 o ho ((M b a6 g1).2 o hs),λi j q n hf K Q=>hk.Ke (λq' hq=>hc q' (by subst hf;simpa[AV.refs,OB.refs] using hq)) (g8.2 i j q n hf K Q)⟩⟩
 | gone=>trivial
 | map k e es=>obtain⟨b,c,arr,F,H,V,Y,h4,h5⟩:=h;refine⟨b,c,arr,F,J.trans H,(M b c H).1.trans V,Y,λo ho=>h4 o ((M b c H).2 o ho),λi K=>?_⟩;obtain⟨x,g1,g2,g3⟩:=h5 i K;exact⟨x,g1,g2,g3.mono hk.k⟩
 | zj k e es kv U n=>obtain⟨b,c,arr,F,H,V,Y,h4,h5,h6⟩:=h;have hr :∀{v:A},kI S w φ ob (.own U n) v->kI S' w' φ' ob' (.own U n) v:=λha=>hk.Ke (λq hq=>hc q (by simpa[AV.refs,OB.refs] using hq)) ha;refine⟨b,c,arr,F,J.trans H,(M b c H).1.trans V,Y,λo ho=>h4 o ((M b c H).2 o ho),λi K=>?_,h6.imp λv hv=>hr hv⟩;obtain⟨x,g1,g2,g3⟩:=h5 i K;exact⟨x,g1,g2,g3.mono hk.k⟩
def Mem.Ra {E:Env}{w:B}{S:Sc}{φ:Nat->C (Nat×Rp)}{ob:Nat->C OB}(m:Mem E w S φ ob)(r:Nat)(cap:Rp)(x:OB)(q:Obj) (hr:ob r=none) (hx :∀F∈x.refs,ob F≠none) (a6:Kept w S φ ob (w.alloc q) S (zg φ r (some (w.heap.size,cap))) (zg ob r (some x))->F1 S (w.alloc q) (zg φ r (some (w.heap.size,cap))) (zg ob r (some x)) r x) : Mem E (w.alloc q) S (zg φ r (some (w.heap.size,cap))) (zg ob r (some x))/\ Kept w S φ ob (w.alloc q) S (zg φ r (some (w.heap.size,cap))) (zg ob r (some x)):=by
 have H :∀b,b<w.heap.size->(w.alloc q).heap[b]?=w.heap[b]?:=λb hb=>HI w _ hb;have K :∀F,ob F≠none->F≠r:=λF h e=>h (e▸hr);have Q:Kept w S φ ob (w.alloc q) S (zg φ r (some (w.heap.size,cap))) (zg ob r (some x)):=by
  refine⟨λb o h=>⟨h,CL (H b (m.bS b o h)) o⟩,λF h=>.inl ?_,λF h=>?_⟩
  ·rw[AO _ _ _ _ (K F h),AO _ _ _ _ (K F h)];exact⟨rfl,rfl,id⟩
  rw[AO _ _ _ _ (K F h)];exact h
 refine⟨⟨?_,?_,?_,m.sS,?_,?_,m.nS,?_,?_,?_,m.os⟩,Q⟩
 ·intro F o h;by_cases J:F=r
  ·subst J;simp only[gS,X21] at h;subst h;exact a6 Q
  rw[AO _ _ _ _ J] at h;refine (m.obj F o h).zV Q (AO _ _ _ _ J) (λb c hb=>⟨H b (m.ow F b c (by simp[h]) hb).1,λ_ h=>h⟩) (m.GJ F o h)
 ·intro r1 V b c c' Y Z M P;by_cases e1:r1=r
  ·by_cases e2:V=r
   ·rw[e1,e2]
   subst e1;rw[gS] at M;rw[AO _ _ _ _ e2] at P Z;simp only[X21,X23] at M;have:=(m.ow V b c' Z P).1;omega
  by_cases e2:V=r
  ·subst e2;rw[gS] at P;rw[AO _ _ _ _ e1] at M Y;simp only[X21,X23] at P;have:=(m.ow r1 b c Y M).1;omega
  rw[AO _ _ _ _ e1] at M Y;rw[AO _ _ _ _ e2] at P Z;exact m.inj r1 V b c c' Y Z M P
 ·intro F o h U hm;by_cases J:F=r
  ·subst J;simp only[gS,X21] at h;subst h;exact Q.c _ (hx U hm)
  rw[AO _ _ _ _ J] at h;exact Q.c _ (m.GJ F o h U hm)
 ·intro b o h;exact (CL (H b (m.bS b o (m.sS b o h))) o).trans (m.kS b o h)
 ·intro b o h;have:=m.bS b o h;simp;omega
 ·intro b h h';exact (H b (Xb4 h m.sz)).trans (m.fr b h h')
 ·have:=m.sz;simp;omega
 intro F b c h g;by_cases J:F=r
 ·subst J;simp only[gS,X21,X23] at g;have:=m.sz;exact⟨by simp;omega,.inl (by omega)⟩
 rw[AO _ _ _ _ J] at g h;have:=m.ow F b c h g;exact⟨by simp;omega,this.2⟩
def Mem.alloc {E:Env}{w:B}{S:Sc}{φ:Nat->C (Nat×Rp)}{ob:Nat->C OB}(m:Mem E w S φ ob)(r:Nat)(cap:Rp)(x:OB)(vs:Array A)(e:Nat) (H:ob r=none) (J :∀K∈x.refs,ob K≠none) (F:Kept w S φ ob (w.alloc (.cells vs e)) S (zg φ r (some (w.heap.size,cap))) (zg ob r (some x))->F1 S (w.alloc (.cells vs e)) (zg φ r (some (w.heap.size,cap))) (zg ob r (some x)) r x) : Mem E (w.alloc (.cells vs e)) S (zg φ r (some (w.heap.size,cap))) (zg ob r (some x))/\ Kept w S φ ob (w.alloc (.cells vs e)) S (zg φ r (some (w.heap.size,cap))) (zg ob r (some x)):=
 m.Ra r cap x (.cells vs e) H J F
def Mem.empty {E:Env}{w:B}{S:Sc}{φ:Nat->C (Nat×Rp)}{ob:Nat->C OB}(m:Mem E w S φ ob)(r e sz:Nat)(hr:ob r=none)(zx:0<sz) : Mem E w S (zg φ r none) (zg ob r (some (.row e sz [] .no)))/\Kept w S φ ob w S (zg φ r none) (zg ob r (some (.row e sz [] .no))):=by
 have J :∀F,ob F≠none->F≠r:=λF h e=>h (e▸hr);have K:Kept w S φ ob w S (zg φ r none) (zg ob r (some (.row e sz [] .no))):=by
  refine⟨λb o h=>⟨h,rfl⟩,λF h=>.inl ?_,λF h=>?_⟩
  ·rw[AO _ _ _ _ (J F h),AO _ _ _ _ (J F h)];exact⟨rfl,rfl,id⟩
  rw[AO _ _ _ _ (J F h)];exact h
 refine⟨⟨?_,?_,?_,m.sS,m.kS,m.bS,m.nS,m.fr,m.sz,?_,m.os⟩,K⟩
 ·intro F o h;by_cases H:F=r
  ·subst H;simp only[gS,X21] at h;subst h;exact⟨zx,λi M=>by simp at M,λi M=>by simp at M,.inl ⟨gS _ _ _,rfl⟩⟩
  rw[AO _ _ _ _ H] at h;exact (m.obj F o h).zV K (AO _ _ _ _ H) (λb c hb=>⟨rfl,λ_ h=>h⟩) (m.GJ F o h)
 ·intro V Y b c c' Z h2 P Q;by_cases e1:V=r
  ·subst e1;simp at P
  by_cases e2:Y=r
  ·subst e2;simp at Q
  rw[AO _ _ _ _ e1] at P Z;rw[AO _ _ _ _ e2] at Q h2;exact m.inj V Y b c c' Z h2 P Q
 ·intro F o h U hm;by_cases H:F=r
  ·subst H;simp only[gS,X21] at h;subst h;simp[OB.refs] at hm
  rw[AO _ _ _ _ H] at h;exact K.c _ (m.GJ F o h U hm)
 intro F b c h g;by_cases H:F=r
 ·subst H;simp at g
 rw[AO _ _ _ _ H] at g h;exact m.ow F b c h g
def Mem.set {E:Env}{w:B}{S:Sc}{φ:Nat->C (Nat×Rp)}{ob:Nat->C OB}(m:Mem E w S φ ob)(r:Nat)(o0 x:OB)(w':B)(l:C (Nat×Rp)) (h0:ob r=some o0) (hw :∀k,k<w.heap.size->(∀c,φ r≠some (k,c))->w'.heap[k]?=w.heap[k]?) (hs:w.heap.size<=w'.heap.size) (a8:w'.os=w.os/\w'.output=w.output/\w'.tape=w.tape/\w.drawn<=w'.drawn) (aa :∀b c o,φ r=some (b,c)->S b o->cellAt w' b o=cellAt w b o) (J:l=φ r \/∃b c,l=some (b,c)/\w.heap.size<=b/\b<w'.heap.size) (hr:DS φ ob (zg φ r l) (zg ob r (some x)) r) (hx :∀F∈x.refs,ob F≠none) (ab:Kept w S φ ob w' S (zg φ r l) (zg ob r (some x))->F1 S w' (zg φ r l) (zg ob r (some x)) r x) : Mem E w' S (zg φ r l) (zg ob r (some x))/\Kept w S φ ob w' S (zg φ r l) (zg ob r (some x)):=by
 have U:Kept w S φ ob w' S (zg φ r l) (zg ob r (some x)):=by
  refine⟨λb o h=>⟨h,?_⟩,λF h=>?_,λF h=>?_⟩
  ·by_cases V :∃c,φ r=some (b,c)
   ·obtain⟨c,Y⟩:=V;exact aa b c o Y h
   exact CL (hw b (m.bS b o h) λc Y=>V ⟨c,Y⟩) o
  ·by_cases H:F=r
   ·rw[H];exact hr
   refine .inl ?_;rw[AO _ _ _ _ H,AO _ _ _ _ H];exact⟨rfl,rfl,id⟩
  by_cases H:F=r
  ·rw[H];simp
  rw[AO _ _ _ _ H];exact h
 have K:ob r≠none:=by simp[h0]
 refine⟨⟨?_,?_,?_,m.sS,?_,?_,m.nS,?_,?_,?_,?_⟩,U⟩
 ·intro F o h;by_cases H:F=r
  ·subst H;simp only[gS,X21] at h;subst h;exact ab U
  rw[AO _ _ _ _ H] at h;refine (m.obj F o h).zV U (AO _ _ _ _ H) (λb c V=>⟨hw b (m.ow F b c (by simp[h]) V).1 λQ ae=>H (m.inj F r b c Q (by simp[h]) K V ae),λ_ h=>h⟩) (m.GJ F o h)
 ·intro r1 Z b c Q h1 h2 M P;by_cases e1:r1=r
  ·by_cases e2:Z=r
   ·rw[e1,e2]
   rw[e1,gS] at M;rw[AO _ _ _ _ e2] at P h2;rcases J with J|⟨b',af,J,a6,_⟩
   ·exact e1▸m.inj r Z b c Q K h2 (J▸M) P
   rw[J] at M;simp only[X21,X23] at M;have:=(m.ow Z b Q h2 P).1;omega
  by_cases e2:Z=r
  ·rw[e2,gS] at P;rw[AO _ _ _ _ e1] at M h1;rcases J with J|⟨b',af,J,a6,_⟩
   ·exact e2▸m.inj r1 r b c Q h1 K M (J▸P)
   rw[J] at P;simp only[X21,X23] at P;have:=(m.ow r1 b c h1 M).1;omega
  rw[AO _ _ _ _ e1] at M h1;rw[AO _ _ _ _ e2] at P h2;exact m.inj r1 Z b c Q h1 h2 M P
 ·intro F o h a7 hm;by_cases H:F=r
  ·subst H;simp only[gS,X21] at h;subst h;exact U.c _ (hx a7 hm)
  rw[AO _ _ _ _ H] at h;exact U.c _ (m.GJ F o h a7 hm)
 ·intro b o h;exact (U.k b o (m.sS b o h)).2.trans (m.kS b o h)
 ·intro b o h;exact Xb4 (m.bS b o h) hs
 ·intro b h h';refine (hw b (Xb4 h m.sz) λc Y=>?_).trans (m.fr b h h');rcases (m.ow r b c K Y).2 with g|g
  ·omega
  exact h' g
 ·exact Xay m.sz hs
 ·intro F b c h g;by_cases H:F=r
  ·subst H;rw[gS] at g;rcases J with J|⟨b',Q,J,a6,ag⟩
   ·have:=m.ow F b c K (J▸g);exact⟨by omega,this.2⟩
   rw[J] at g;simp only[X21,X23] at g;have:=m.sz;exact⟨by omega,.inl (by omega)⟩
  rw[AO _ _ _ _ H] at g h;have:=m.ow F b c h g;exact⟨by omega,this.2⟩
 obtain⟨a1,a2,a3,a4⟩:=a8;obtain⟨b1,b2,b3,b4⟩:=m.os;exact⟨a1.trans b1,a2.trans b2,a3.trans b3,b4.imp_right λh=>Xay h a4⟩
def Mem.freeze {E:Env}{w:B}{S:Sc}{φ:Nat->C (Nat×Rp)}{ob:Nat->C OB}(m:Mem E w S φ ob)(r e sz:Nat)(es:O D)(frz:FZ) (h0:ob r=some (.row e sz es frz)) :∃S',Mem E w S' φ (zg ob r (some (.row e sz es .Dd)))/\Kept w S φ ob w S' φ (zg ob r (some (.row e sz es .Dd)))/\ ∀v,JF φ r es.length v->zf S' w (.Cg sz es) v:=by
 let S':Sc:=λb o=>S b o \/∃c,φ r=some (b,c)/\c.2<=o/\o<c.2+es.length*sz;have H:ob r≠none:=by simp[h0]
 have hS :∀b o,S b o->S' b o:=λb o h=>.inl h;have V:Kept w S φ ob w S' φ (zg ob r (some (.row e sz es .Dd))):=by
  refine⟨λb o h=>⟨hS b o h,rfl⟩,λF h=>?_,λF h=>?_⟩
  ·by_cases J:F=r
   ·subst J;refine .inl ⟨rfl,?_,?_⟩
    ·simp[h0,Ga]
    rintro⟨cs,a7⟩;simp at a7
   refine .inl ?_;rw[AO _ _ _ _ J];exact⟨rfl,rfl,id⟩
  by_cases J:F=r
  ·rw[J];simp
  rw[AO _ _ _ _ J];exact h
 have P:=m.obj r _ h0;refine⟨S',⟨?_,?_,?_,λb o h=>hS b o (m.sS b o h),m.kS,?_,?_,m.fr,m.sz,?_,m.os⟩,V,?_⟩
 ·intro F o h;by_cases J:F=r
  ·subst J;simp only[gS,X21] at h;subst h;obtain⟨g0,Y,Z,g3⟩:=P;refine⟨g0,Y,Z,g3.imp id ?_⟩;rintro⟨b,a6,vs,f,f1,f2,f3,f4,f5,f6,f7,f8⟩;refine⟨b,a6,vs,f,f1,f2,f3,f4,f5,f6,λi Q j hj=>(f7 i Q j hj).mono V.k,λo U hs=>?_,λ_ _ _ _ h=>nomatch h⟩;simp only[FZ.Hd,Xet] at U;rcases hs with hs|⟨c',K,_,hs⟩
   ·refine f8.1 o ?_ hs;cases frz<;>simp;exact U
   rw[f1] at K;simp only[X21,X23,true_and] at K;subst K;omega
  rw[AO _ _ _ _ J] at h;refine (m.obj F o h).zV V rfl (λb c hb=>⟨rfl,λo U=>?_⟩) (m.GJ F o h);rcases U with U|⟨c',K,_⟩
  ·exact U
  exact absurd (m.inj F r b c c' (by simp[h]) H hb K) J
 ·intro r1 r2 b c c' h1 h2 Y Z;refine m.inj r1 r2 b c c' ?_ ?_ Y Z
  ·by_cases e1:r1=r
   ·rw[e1];exact H
   rwa [AO _ _ _ _ e1] at h1
  by_cases e2:r2=r
  ·rw[e2];exact H
  rwa [AO _ _ _ _ e2] at h2
 ·intro F o h a8 hm;by_cases J:F=r
  ·subst J;simp only[gS,X21] at h;subst h;simp[OB.refs] at hm
  rw[AO _ _ _ _ J] at h;exact V.c _ (m.GJ F o h a8 hm)
 ·intro b o h;rcases h with h|⟨c,hc,_⟩
  ·exact m.bS b o h
  exact (m.ow r b c H hc).1
 ·intro b o h h1 h2;rcases h with h|⟨c,hc,_⟩
  ·exact m.nS b o h h1 h2
  rcases (m.ow r b c H hc).2 with g|g
  ·omega
  exact absurd g h2
 ·intro F b c h g;refine m.ow F b c ?_ g;by_cases e1:F=r
  ·rw[e1];exact H
  rwa [AO _ _ _ _ e1] at h
 intro v hv;obtain⟨g0,Y,Z,g3⟩:=P;rcases hv with ⟨a1,a2,a3,rfl⟩|⟨b,a6,a1,rfl⟩
 ·have:es=[]:=Xag a2;subst this;exact .zZ sz _ _
 rcases g3 with ⟨b1,rfl⟩|⟨b',M,vs,f,f1,f2,f3,f4,f5,f6,f7,f8⟩
 ·rw[b1] at a1;simp at a1
 rw[f1] at a1;simp only[X21,X23] at a1;obtain⟨rfl,rfl⟩:=a1;refine .Cg sz es b' M.2 M.1 f (Xay f3 f4) f3 Y (λi j Q hj=>⟨.inr ⟨M,f1,?_,?_⟩,?_⟩) Z λi Q j hj=>(f7 i Q j hj).mono V.k
 ·omega
 ·have:(i+1)*sz<=es.length*sz:=X28 _ Q;rw[X29] at this;omega
 rw[BB f2,Xc5];exact f6 i j Q hj
def DS.trans {φ φ' M:Nat->C (Nat×Rp)}{ob ob' H:Nat->C OB}{r:Nat}(h:DS φ ob φ' ob' r)(k:DS φ' ob' M H r):DS φ ob M H r:=by
 rcases h with ⟨a1,K,a3⟩|⟨e,sz,V,J,U,P,a1,K,a3,a4⟩|⟨a1,K,a3⟩
 ·rcases k with ⟨b1,b2,b3⟩|⟨e,sz,V,J,U,P,b1,b2,b3,b4⟩|⟨⟨e,sz,V,J,b1⟩,b2,b3⟩
  ·exact .inl ⟨b1.trans a1,b2.trans K,λx=>a3 (b3 x)⟩
  ·obtain⟨F,f0,Y,c2⟩:=JI b1 K;exact .inr (.inl ⟨e,sz,F,f0,U,P,Y,b2,by omega,λhh=>(b4 (by omega)).trans a1⟩)
  obtain⟨F,f0,Y,_⟩:=JI b1 K;exact .inr (.inr ⟨⟨e,sz,F,f0,Y⟩,b2,b3⟩)
 ·rcases k with ⟨b1,b2,b3⟩|⟨e2,aa,ab,Z,a6,Q,b1,b2,b3,b4⟩|⟨_,b2,b3⟩
  ·obtain⟨F,f0,Y,c2⟩ :∃F f0,H r=some (.row e sz F f0)/\F.length=U.length:=by
    rw[K] at b2;cases a7:H r with
    | none=>rw[a7] at b2;simp[Ga] at b2
    | some o=>
     rw[a7] at b2;cases o with
     | box cs=>simp[Ga] at b2
     | map=>simp[Ga] at b2
     | zj=>simp[Ga] at b2
     | gone=>simp[Ga] at b2
     | row e' af a8 f=>simp[Ga] at b2;exact⟨a8,f,by simp[b2],b2.2.2⟩
   exact .inr (.inl ⟨e,sz,V,J,F,f0,a1,Y,by omega,λhh=>b1.trans (a4 (by omega))⟩)
  ·rw[K] at b1;simp only[X21,OB.row.injEq] at b1;obtain⟨rfl,rfl,rfl,rfl⟩:=b1;exact .inr (.inl ⟨e,sz,V,J,a6,Q,a1,b2,by omega,λhh=>(b4 (by omega)).trans (a4 (by omega))⟩)
  exact .inr (.inr ⟨⟨e,sz,V,J,a1⟩,b2,b3⟩)
 rcases k with ⟨b1,b2,b3⟩|⟨e2,aa,ab,Z,a6,Q,b1,b2,b3,b4⟩|⟨⟨e,sz,V,J,b1⟩,_⟩
 ·exact .inr (.inr ⟨a1,b2.trans K,λcs hx=>by
   obtain⟨ae,h'⟩:=b3 ⟨cs,hx⟩
   exact a3 ae h'⟩)
 ·exact absurd b1 (Ux K _ _ _ _)
 exact absurd b1 (Ux K _ _ _ _)
def Kept.trans {w w' J:B}{S S' K:Sc}{φ φ' F:Nat->C (Nat×Rp)}{ob ob' H:Nat->C OB}(h:Kept w S φ ob w' S' φ' ob')(k:Kept w' S' φ' ob' J K F H) : Kept w S φ ob J K F H:=
 ⟨λb o P=>⟨(k.k b o (h.k b o P).1).1,(k.k b o (h.k b o P).1).2.trans (h.k b o P).2⟩,λr M=>(h.r r M).trans (k.r r (h.c r M)),λr M=>k.c r (h.c r M)⟩
end Go.AX
end
