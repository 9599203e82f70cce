/-
  Texts of one proof, packed.
-/
import Derived.Test.YtbohbnpaadcfmaaGreatDoorKG2
import Derived.Test.YtbohbnpaadcfmaaGreatDoorKG4
import Derived.Test.YtbohbnpaadcfmaaGreatDoorKG5
import Derived.Test.YtbohbnpaadcfmaaGreatDoorKG7
import Derived.IntWalk
import Derived.KernelRfl
import Derived.Shelf.SlSortCmp.NoneTotal
import Derived.Shelf.SortM.Plain
import Derived.Shelf.SortM.SortNone
set_option linter.all false
set_option maxRecDepth 100000
set_option maxHeartbeats 4000000
open List renaming length_map→X10,length_append→X11,length_cons→X12,length_nil→X13,getElem?_eq_getElem→X15,getElem?_eq_some_iff→X16,length_drop→X17,length_take→X18,mem_cons_of_mem→X19,length_replicate→X20,length_set→X21,length_singleton→X22
open Option.some renaming injEq→X24,inj→X25
open Prod.mk renaming injEq→X26
open Bool renaming eq_iff_iff→X28
open Nat renaming le_of_ble_eq_true→X29,mul_le_mul_right→X31,add_mul→X32
section
namespace Go.AX.Q19
open Go Go.AX Go.Proofs
variable {wl:Prop}
theorem E8 {a0:List JAD}{a1:Bool}{r:(List UInt8)}(h:Dc a0 a1=some r):yC wl 97 [AV.d (D.l 4 JAD.toD a0),AV.d (D.b a1)] [] (.d (D.l 1 D.u8 r)) []:=by
 refine oK Tryz.f97 ⟨rfl,?_⟩;unfold Dc at h;refine⟨a0.length,X10 _,?_⟩;revert h;refine AG (fun v1=>⟨dd 5 (yO 5 D.u8 v1::dd 30 ([])),nn 5 (yR 5 1 D.u8 v1::nn 30 ([]))⟩) ?_ ?_
 ·intro k2 h;revert h;refine Ag 8 4 JAD.toD rfl (fun i3 v4=>⟨X::yb a1::X::X::X::yO 5 D.u8 v4::X::X::y5 a0::yi (a0.length:Int)::yi (i3:Int)::dd 25 ([]),nn 5 (yR 5 1 D.u8 v4::nn 30 ([]))⟩) ?_ ?_ ?_
  ·exact wk
  ·rintro v4 K5 h;(conv=>whnf);refine .go ?_;(conv=>whnf);refine BL DL ?_;exact AB wk h
  rintro next6 i3 x7 v4 K5 hii3 hxi3 hwi3 h hK8;(conv=>whnf);refine .go ?_;(conv=>whnf);refine BC (CX hii3) ?_;(conv=>whnf);refine .go ?_;refine⟨BB (f:=JAD.toD) hii3,JAD.toD x7,hxi3,rfl,?_⟩;revert h;refine AG (fun v9=>⟨X::yb a1::X::X::X::yO 5 D.u8 v9::X::X::y5 a0::yi (a0.length:Int)::yi (i3:Int)::dd 25 ([]),nn 5 (yR 5 1 D.u8 v9::nn 30 ([]))⟩) ?_ ?_
  ·intro k10 h;refine sJ h (fun h=>?_) fun h=>AB wk h;(conv=>whnf);refine .inl (dO ?_);refine⟨_,Af _,?_⟩;refine⟨rfl,?_⟩;obtain⟨v11,g12,h⟩:=AA h;refine⟨rfl,AZ (f:=D.u8) (g:=D.u8) g12,_,Aa (f:=D.u8) g12,?_⟩;obtain⟨v13,g14,h⟩:=AA h;refine⟨_,_,E7 g14,.inr rfl,?_⟩;refine⟨_,rfl,?_⟩;refine⟨by decide,_,rfl,?_⟩;(conv=>whnf);refine .inr (.inl ?_);obtain⟨_,g15,h⟩:=AA h;have g21c:=D4 g15;refine⟨OH (f:=D.u8) g15,rfl,(Int.toNat 0),(Int.toNat (AS (Int.tdiv (AS (x7.Len+7)) 8))-Int.toNat 0),rfl,rfl,?_⟩;refine⟨(by first | rfl | (simp only[X10,X21];omega)|(simp only[cpy,X10,X21,X11,X18,X17,X20];omega)),List.map D.u8 (List.take (Int.toNat (AS (Int.tdiv (AS (x7.Len+7)) 8))-Int.toNat 0) (List.drop (Int.toNat 0) v13)),J4,?_⟩;obtain⟨v16,g17,h⟩:=AA h;refine⟨rfl,AZ (f:=D.u8) (g:=D.u8) g17,_,Aa (f:=D.u8) g17,?_⟩;(conv=>whnf);refine cO ?_;exact AB wk h
  rintro v9 h;refine⟨_,hwi3,?_⟩;exact hK8 _ _ wk h
 rintro v1 h;(conv=>whnf);refine .inl ?_;(conv=>whnf);refine .inl ?_;refine⟨rfl,?_⟩;cases h;exact⟨rfl,rfl⟩
theorem LN {a0:List JAA}{a1:JAA}{r:(List JAA)}(h:Ep a0 a1=some r):yC wl 98 [AV.d (D.l 3 JAA.toD a0),AV.d (JAA.toD a1)] [] (.d (D.l 3 JAA.toD r)) []:=by
 refine oK Tryz.f98 ⟨rfl,?_⟩;unfold Ep at h;revert h;refine AG (fun v1=>⟨y4 a0::X::X::yr 3 0::X::yi v1::dd 27 ([]),N::N::N::yB (JAA.av a1)::nn 29 ([])⟩) ?_ ?_
 ·intro k2 h;revert h;refine Au (fun v3=>⟨y4 a0::X::X::yr 3 0::X::yi v3::dd 27 ([]),N::N::N::yB (JAA.av a1)::nn 29 ([])⟩) ?_ ?_
  ·exact wk
  rintro next4 v3 K5 h hK6;revert h;refine AG (fun v7=>⟨y4 a0::X::X::yr 3 0::X::yi v3::dd 13 (yb v7::dd 13 ([])),N::N::N::yB (JAA.av a1)::nn 29 ([])⟩) ?_ ?_
  ·intro k8 h;(conv=>whnf);refine .inl (dO ?_);refine⟨a0.length,X10 _,?_⟩;refine sJ h ?_ ?_<;>intro h
   ·obtain⟨v9,g10,h⟩:=AA h;refine⟨Ap (f:=JAA.toD) g10,JAA.toD v9,An (f:=JAA.toD) g10,rfl,?_⟩;(conv=>whnf);refine cO ?_;exact AB wk h
   (conv=>whnf);refine cO ?_;exact AB wk h
  rintro v7 h;(conv=>whnf);refine .go ?_;refine sJ h (fun h=>?_) fun h=>AB wk h;(conv=>whnf);refine .go ?_;refine⟨_,rfl,?_⟩;exact hK6 _ _ wk h
 rintro v1 h;(conv=>whnf);refine .inl (dO ?_);obtain⟨v11,g12,h⟩:=AA h;refine⟨EX (f:=JAA.toD) g12,_,EW (f:=JAA.toD) g12,?_⟩;obtain⟨_,g13,h⟩:=AA h;refine⟨Ci (g:=JAA.toD) g13,?_⟩;refine⟨rfl,?_⟩;obtain⟨v14,g15,h⟩:=AA h;refine⟨rfl,AZ (f:=JAA.toD) (g:=JAA.toD) g15,_,Aa (f:=JAA.toD) g15,?_⟩;obtain⟨v16,g17,h⟩:=AA h;refine⟨Ku (f:=JAA.toD) g17,_,LR (f:=JAA.toD) g17,?_⟩;obtain⟨v18,g19,h⟩:=AA h;refine⟨rfl,AZ (f:=JAA.toD) (g:=JAA.toD) g19,_,Aa (f:=JAA.toD) g19,?_⟩;(conv=>whnf);refine cO ?_;(conv=>whnf);refine .inl ?_;(conv=>whnf);refine .inl ?_;refine⟨rfl,?_⟩;cases h;exact⟨rfl,rfl⟩
theorem Ix {a0:JAG}{r:(List UInt8)×Int}(h:EE a0=some r):yC wl 50 [AV.d (JAG.toD a0)] [] (.tup [.d (D.l 1 D.u8 r.1),.d (D.i r.2)]) []:=by
 refine oK Tryz.f50 ⟨rfl,?_⟩;unfold EE at h;refine⟨a0.Announce.length,X10 _,?_⟩;revert h;refine AG (fun v1=>⟨X::yr 1 0::X::X::y4 v1::dd 91 ([]),N::yB (JAG.av a0)::nn 94 ([])⟩) ?_ ?_
 ·intro k2 h;refine sJ h (fun h=>?_) fun h=>AB wk h;obtain⟨⟨v3,v4⟩,g5,h⟩:=AA h;refine⟨_,_,some [],O9 g5,?_⟩;(conv=>whnf);refine .go ?_;refine sJ h (fun h=>?_) fun h=>AB wk h;cases h;exact⟨rfl,rfl⟩
 rintro v1 h;obtain⟨v6,g7,h⟩:=AA h;refine⟨_,_,some [],E8 g7,?_⟩;refine⟨v6.length,X10 _,?_⟩;revert h;refine AG (fun v8=>⟨X::yr 1 0::X::X::y4 v8::dd 91 ([]),N::yB (JAG.av a0)::nn 94 ([])⟩) ?_ ?_
 ·intro k9 h;refine sJ h (fun h=>?_) fun h=>AB wk h;obtain⟨v10,g11,h⟩:=AA h;refine⟨_,_,some [38],E7 g11,?_⟩;refine⟨rfl,?_⟩;obtain⟨v12,g13,h⟩:=AA h;refine⟨rfl,AZ (f:=D.u8) (g:=D.u8) g13,_,Aa (f:=D.u8) g13,?_⟩;refine⟨rfl,?_⟩;obtain⟨v14,g15,h⟩:=AA h;refine⟨rfl,AZ (f:=D.u8) (g:=D.u8) g15,_,Aa (f:=D.u8) g15,?_⟩;obtain⟨v16,g17,h⟩:=AA h;refine⟨rfl,AZ (f:=D.u8) (g:=D.u8) g17,_,Aa (f:=D.u8) g17,?_⟩;refine⟨rfl,?_⟩;obtain⟨v18,g19,h⟩:=AA h;refine⟨_,_,some [],LN g19,?_⟩;exact AB wk h
 rintro v8 h;obtain⟨v20,g21,h⟩:=AA h;refine⟨_,_,some [],E8 g21,?_⟩;refine⟨v20.length,X10 _,?_⟩;revert h;refine AG (fun v22=>⟨X::yr 1 0::X::X::y4 v22::dd 91 ([]),N::yB (JAG.av a0)::nn 94 ([])⟩) ?_ ?_
 ·intro k23 h;refine sJ h (fun h=>?_) fun h=>AB wk h;obtain⟨v24,g25,h⟩:=AA h;refine⟨rfl,AZ (f:=D.u8) (g:=D.u8) g25,_,Aa (f:=D.u8) g25,?_⟩;refine⟨rfl,?_⟩;obtain⟨v26,g27,h⟩:=AA h;refine⟨_,_,some [],LN g27,?_⟩;exact AB wk h
 rintro v22 h;obtain⟨⟨v28,v29⟩,g30,h⟩:=AA h;refine⟨_,_,some [],PU g30,?_⟩;(conv=>whnf);refine .go ?_;refine sJ h ?_ ?_<;>intro h
 ·(conv=>whnf);refine .inl ?_;refine⟨rfl,?_⟩;cases h;exact⟨rfl,rfl⟩
 obtain⟨v31,g32,h⟩:=AA h;refine⟨_,_,some [],E8 g32,?_⟩;refine⟨v31.length,X10 _,?_⟩;refine⟨by decide,_,rfl,?_⟩;refine⟨_,Af _,?_⟩;refine⟨v31.length,X10 _,?_⟩;refine⟨_,Af _,?_⟩;obtain⟨v33,g34,h⟩:=AA h;refine⟨rfl,AZ (f:=D.u8) (g:=D.u8) g34,_,Aa (f:=D.u8) g34,?_⟩;refine⟨v28.length,X10 _,?_⟩;refine⟨by decide,_,rfl,?_⟩;refine⟨_,Af _,?_⟩;refine⟨v28.length,X10 _,?_⟩;refine⟨_,Af _,?_⟩;refine⟨rfl,?_⟩;obtain⟨v35,g36,h⟩:=AA h;refine⟨rfl,AZ (f:=D.u8) (g:=D.u8) g36,_,Aa (f:=D.u8) g36,?_⟩;obtain⟨v37,g38,h⟩:=AA h;refine⟨rfl,AZ (f:=D.u8) (g:=D.u8) g38,_,Aa (f:=D.u8) g38,?_⟩;obtain⟨v39,g40,h⟩:=AA h;refine⟨_,_,some [],E8 g40,?_⟩;obtain⟨v41,g42,h⟩:=AA h;refine⟨rfl,AZ (f:=D.u8) (g:=D.u8) g42,_,Aa (f:=D.u8) g42,?_⟩;(conv=>whnf);refine .inl ?_;refine⟨rfl,?_⟩;cases h;exact⟨rfl,rfl⟩
theorem Gz {a0:JAG}{r:Bool}(h:EB a0=some r):yC wl 21 [AV.d (JAG.toD a0)] [] (.d (D.b r)) []:=by
 refine oK Tryz.f21 ⟨rfl,?_⟩;unfold EB at h;revert h;refine AG (fun v1=>⟨X::yr 1 0::dd 16 (yb v1::dd 73 ([])),N::yB (JAG.av a0)::nn 90 ([])⟩) ?_ ?_
 ·intro k2 h;refine⟨a0.Withdraw.length,X10 _,?_⟩;refine sJ h (fun h=>AB wk h) fun h=>?_;refine⟨a0.Announce.length,X10 _,?_⟩;exact AB wk h
 rintro v1 h;(conv=>whnf);refine .go ?_;refine sJ h ?_ ?_<;>intro h
 ·cases h;exact⟨rfl,rfl⟩
 (conv=>whnf);refine .inl (dO ?_);obtain⟨_,g3,h⟩:=AA h;refine⟨Ci (g:=JAD.toD) g3,?_⟩;obtain⟨v4,g5,h⟩:=AA h;refine⟨rfl,AZ (f:=JAD.toD) (g:=JAD.toD) g5,_,Aa (f:=JAD.toD) g5,?_⟩;refine⟨v4.length,by first | exact X10 _ | rfl | (simp only[X10];omega),?_⟩;(conv=>whnf);refine cO ?_;revert h;refine AG (fun _=>⟨X::yr 1 0::dd 90 ([]),N::yB (JAG.av a0)::nn 90 ([])⟩) ?_ ?_
 ·intro k6 h;revert h;refine JH 21 41 4 .no JAD.toD rfl (fun i7 _=>⟨X::yr 1 0::dd 22 (yO 21 JAD.toD v4::yi (v4.length:Int)::yi (i7:Int)::dd 65 ([])),N::yB (JAG.av a0)::nn 19 (yR 41 4 JAD.toD v4::nn 70 ([]))⟩) ?_ ?_ ?_
  ·exact wk
  ·rintro _ K8 h;(conv=>whnf);refine .go ?_;(conv=>whnf);refine BL DL ?_;exact AB wk h
  rintro next9 i7 x10 _ K8 hii7 hxi7 hwi7 h hK11;(conv=>whnf);refine .go ?_;(conv=>whnf);refine BC (CX hii7) ?_;(conv=>whnf);refine .go ?_;refine⟨rfl,BB (f:=JAD.toD) hii7,?_⟩;refine⟨rfl,JAD.toD x10,hxi7,?_⟩;obtain⟨v12,g13,h⟩:=AA h;refine⟨_,_,some [],Oy g13,?_⟩;(conv=>whnf);refine .go ?_;refine sJ h ?_ ?_<;>intro h
  ·cases h;exact⟨rfl,rfl⟩
  refine⟨_,hwi7,?_⟩;exact hK11 _ _ wk h
 rintro _ h;revert h;refine AG (fun v14=>⟨X::yr 1 0::dd 42 (yb v14::dd 47 ([])),N::yB (JAG.av a0)::nn 90 ([])⟩) ?_ ?_
 ·intro k15 h;(conv=>whnf);refine .inl (dO ?_);refine⟨a0.Announce.length,X10 _,?_⟩;refine sJ h ?_ ?_<;>intro h
  ·obtain⟨v16,g17,h⟩:=AA h;refine⟨_,_,I5 g17,.inl rfl,?_⟩;obtain⟨v18,g19,h⟩:=AA h;refine⟨_,_,Px g19,.inl rfl,?_⟩;(conv=>whnf);refine cO ?_;exact AB wk h
  (conv=>whnf);refine cO ?_;exact AB wk h
 rintro v14 h;(conv=>whnf);refine .go ?_;refine sJ h ?_ ?_<;>intro h
 ·cases h;exact⟨rfl,rfl⟩
 refine⟨a0.Announce.length,X10 _,?_⟩;revert h;refine AG (fun _=>⟨X::yr 1 0::dd 90 ([]),N::yB (JAG.av a0)::nn 90 ([])⟩) ?_ ?_
 ·intro k20 h;revert h;refine Ag 46 4 JAD.toD rfl (fun i21 _=>⟨X::yr 1 0::dd 44 (AV.d (D.l 4 JAD.toD a0.Announce)::yi (a0.Announce.length:Int)::yi (i21:Int)::dd 43 ([])),N::yB (JAG.av a0)::nn 90 ([])⟩) ?_ ?_ ?_
  ·exact wk
  ·rintro _ K22 h;(conv=>whnf);refine .go ?_;(conv=>whnf);refine BL DL ?_;exact AB wk h
  rintro next23 i21 x24 _ K22 hii21 hxi21 hwi21 h hK25;(conv=>whnf);refine .go ?_;(conv=>whnf);refine BC (CX hii21) ?_;(conv=>whnf);refine .go ?_;refine⟨BB (f:=JAD.toD) hii21,JAD.toD x24,hxi21,rfl,?_⟩;revert h;refine AG (fun v26=>⟨X::yr 1 0::dd 44 (AV.d (D.l 4 JAD.toD a0.Announce)::yi (a0.Announce.length:Int)::yi (i21:Int)::dd 29 (yb v26::dd 13 ([]))),N::yB (JAG.av a0)::nn 90 ([])⟩) ?_ ?_
  ·intro k27 h;refine sJ h (fun h=>AB wk h) fun h=>?_;refine sJ h (fun h=>AB wk h) fun h=>?_;refine sJ h (fun h=>AB wk h) fun h=>?_;obtain⟨v28,g29,h⟩:=AA h;refine⟨_,_,some [],JQ g29,?_⟩;exact AB wk h
  rintro v26 h;(conv=>whnf);refine .go ?_;refine sJ h ?_ ?_<;>intro h
  ·cases h;exact⟨rfl,rfl⟩
  refine⟨_,hwi21,?_⟩;exact hK25 _ _ wk h
 rintro _ h;obtain⟨⟨v30,v31⟩,g32,h⟩:=AA h;refine⟨_,_,some [],Ix g32,?_⟩;revert h;refine AG (fun v33=>⟨X::X::yb v33::dd 89 ([]),nn 92 ([])⟩) ?_ ?_
 ·intro k34 h;refine sJ h (fun h=>?_) fun h=>AB wk h;refine⟨v30.length,X10 _,?_⟩;exact AB wk h
 rintro v33 h;cases h;exact⟨rfl,rfl⟩
theorem Jg {a0:JAI}{r:JAG×JAI}(h:DT a0=some r):yC wl 13 [.ref 0 0] [.box (JAI.av a0)] (.d (JAG.toD r.1)) [.box (JAI.av r.2)]:=by
 refine okx 2 Tryz.f13 (by kernel_rfl) (by kernel_rfl) ⟨rfl,?_⟩;unfold DT at h;revert h;refine AG (fun _=>⟨yr 0 0::X::yr 3 0::dd 5 (AV.d (D.agg [D.i (-1),D.nil 2,D.b false,D.u64 (0:UInt64),D.u64 (0:UInt64),D.i (-1),D.i (-1),D.i (-1),D.nil 2,D.nil 3,D.nil 3])::dd 67 ([])),yB (JAI.av a0)::N::N::yB JAG.zv::nn 75 ([])⟩) ?_ ?_
 ·intro k1 h;(conv=>whnf);refine inl Tryz.f17 77 (by kernel_rfl) (by kernel_rfl) ⟨rfl,?_⟩;exact AB wk h
 rintro _ h;obtain⟨⟨v2,v3⟩,g4,h⟩:=AA h;refine⟨_,_,some [],AK g4,?_⟩;revert h;refine AG (fun (v5,v6)=>⟨yr 0 0::X::yr 3 0::yr 4 0::dd 72 ([]),yB (JAI.av v5)::N::N::yB JAG.zv::yB [yO 22 JAD.toD v6,yi (-1),AV.d (D.nil 2),yb false,yu (0:UInt64),yu (0:UInt64),yi (-1),yi (-1),yi (-1),AV.d (D.nil 2),AV.d (D.nil 3),AV.d (D.nil 3),AV.d (D.nil 4)]::nn 17 (yR 41 4 JAD.toD v6::nn 56 ([]))⟩) ?_ ?_
 ·intro k7 h;revert h;refine Au (fun (v8,v9,v10)=>⟨yr 0 0::X::yr 3 0::yr 4 0::yi v8::dd 71 ([]),yB (JAI.av v9)::N::N::yB JAG.zv::yB [yO 22 JAD.toD v10,yi (-1),AV.d (D.nil 2),yb false,yu (0:UInt64),yu (0:UInt64),yi (-1),yi (-1),yi (-1),AV.d (D.nil 2),AV.d (D.nil 3),AV.d (D.nil 3),AV.d (D.nil 4)]::nn 17 (yR 41 4 JAD.toD v10::nn 56 ([]))⟩) ?_ ?_
  ·exact wk
  rintro next11 ⟨v8,v9,v10⟩ K12 h hK13;(conv=>whnf);refine .go ?_;refine sJ h (fun h=>?_) fun h=>AB wk h;(conv=>whnf);refine .go ?_;(conv=>whnf);refine .inl (dO ?_);obtain⟨⟨v14,v15⟩,g16,h⟩:=AA h;refine⟨_,_,DR g16,.inl rfl,?_⟩;refine⟨rfl,?_⟩;obtain⟨v17,g18,h⟩:=AA h;refine⟨rfl,AZ (f:=JAD.toD) (g:=JAD.toD) g18,_,Aa (f:=JAD.toD) g18,?_⟩;(conv=>whnf);refine cO ?_;refine⟨_,rfl,?_⟩;exact hK13 _ _ wk h
 rintro⟨v5,v6⟩ h;obtain⟨⟨v19,v20⟩,g21,h⟩:=AA h;refine⟨_,_,some [],AK g21,?_⟩;(conv=>whnf);refine .go ?_;refine sJ h ?_ ?_<;>intro h
 ·(conv=>whnf);refine .inl ?_;refine⟨rfl,?_⟩;cases h;exact⟨rfl,rfl⟩
 obtain⟨⟨v22,v23⟩,g24,h⟩:=AA h;refine⟨_,_,some [],AK g24,?_⟩;obtain⟨⟨v25,v26⟩,g27,h⟩:=AA h;refine⟨_,_,some [],AK g27,?_⟩;revert h;refine AG (fun (v28,v29)=>⟨yr 0 0::X::yr 3 0::yr 4 0::X::yb (v22==1)::dd 70 ([]),yB (JAI.av v28)::N::N::yB JAG.zv::yB [yO 22 JAD.toD v6,yi (-1),AV.d (D.nil 2),yb false,yu (0:UInt64),yu (0:UInt64),yi (-1),yi (-1),yi (-1),AV.d (D.nil 2),AV.d (D.nil 3),AV.d (D.nil 3),yO 48 JAD.toD v29]::nn 17 (yR 41 4 JAD.toD v6::nn 25 (yR 41 4 JAD.toD v29::nn 30 ([])))⟩) ?_ ?_
 ·intro k30 h;revert h;refine Au (fun (v31,v32,v33)=>⟨yr 0 0::X::yr 3 0::yr 4 0::X::yb (v22==1)::yi v31::dd 69 ([]),yB (JAI.av v32)::N::N::yB JAG.zv::yB [yO 22 JAD.toD v6,yi (-1),AV.d (D.nil 2),yb false,yu (0:UInt64),yu (0:UInt64),yi (-1),yi (-1),yi (-1),AV.d (D.nil 2),AV.d (D.nil 3),AV.d (D.nil 3),yO 48 JAD.toD v33]::nn 17 (yR 41 4 JAD.toD v6::nn 25 (yR 41 4 JAD.toD v33::nn 30 ([])))⟩) ?_ ?_
  ·exact wk
  rintro next34 ⟨v31,v32,v33⟩ K35 h hK36;(conv=>whnf);refine .go ?_;refine sJ h (fun h=>?_) fun h=>AB wk h;(conv=>whnf);refine .go ?_;obtain⟨⟨v37,v38⟩,g39,h⟩:=AA h;refine⟨_,_,some [],DR g39,?_⟩;revert h;refine AG (fun v40=>⟨yr 0 0::X::yr 3 0::yr 4 0::X::yb (v22==1)::yi v31::dd 69 ([]),yB (JAI.av v38)::N::N::yB JAG.zv::yB [yO 22 JAD.toD v6,yi (-1),AV.d (D.nil 2),yb false,yu (0:UInt64),yu (0:UInt64),yi (-1),yi (-1),yi (-1),AV.d (D.nil 2),AV.d (D.nil 3),AV.d (D.nil 3),yO 48 JAD.toD v40]::nn 17 (yR 41 4 JAD.toD v6::nn 25 (yR 41 4 JAD.toD v40::nn 30 ([])))⟩) ?_ ?_
  ·intro k41 h;refine sJ h (fun h=>?_) fun h=>AB wk h;refine⟨rfl,?_⟩;obtain⟨v42,g43,h⟩:=AA h;refine⟨rfl,AZ (f:=JAD.toD) (g:=JAD.toD) g43,_,Aa (f:=JAD.toD) g43,?_⟩;exact AB wk h
  rintro v40 h;refine⟨_,rfl,?_⟩;exact hK36 _ _ wk h
 rintro⟨v28,v29⟩ h;refine⟨v29.length,by first | exact X10 _ | rfl | (simp only[X10];omega),?_⟩;(conv=>whnf);refine .go ?_;refine sJ h ?_ ?_<;>intro h
 ·(conv=>whnf);refine .inl ?_;refine⟨rfl,?_⟩;refine⟨rfl,?_⟩;cases h;exact⟨rfl,rfl⟩
 obtain⟨⟨v44,v45⟩,g46,h⟩:=AA h;refine⟨_,_,some [],GX g46,?_⟩;refine⟨_,rfl,?_⟩;obtain⟨v47,g48,h⟩:=AA h;refine⟨_,_,some [],KV g48,?_⟩;revert h;refine AG (fun (v49,v50,v51)=>⟨X::X::yr 3 0::yr 4 0::dd 72 ([]),yB (JAI.av v45)::N::N::yB JAG.zv::yB [yO 22 JAD.toD v6,yi (if v44.Origin > 0 then v44.Origin else 0),AV.d (D.l 2 JAE.toD v44.Path),yb v49,yu v50,yu v51,AV.d (D.i v44.MED),AV.d (D.i v44.Pref),AV.d (D.i v44.OTC),AV.d (D.l 2 JAB.toD v44.Communities),AV.d (D.l 3 JAF.toD v44.JAF),AV.d (D.l 3 JAA.toD v44.Other),yO 48 JAD.toD v29]::nn 17 (yR 41 4 JAD.toD v6::nn 25 (yR 41 4 JAD.toD v29::nn 30 ([])))⟩) ?_ ?_
 ·intro k52 h;refine sJ h (fun h=>?_) fun h=>AB wk h;obtain⟨v53,g54,h⟩:=AA h;refine⟨_,_,some [],M3 g54,?_⟩;exact AB wk h
 rintro⟨v49,v50,v51⟩ h;refine⟨rfl,?_⟩;refine⟨rfl,?_⟩;obtain⟨v55,g56,h⟩:=AA h;refine⟨_,_,none,Gz g56,?_⟩;(conv=>whnf);refine .go ?_;refine sJ h ?_ ?_<;>intro h
 ·revert h;refine AG (fun _=>⟨X::X::yr 3 0::dd 70 (AV.d (D.agg [D.i (-1),D.nil 2,D.b false,D.u64 (0:UInt64),D.u64 (0:UInt64),D.i (-1),D.i (-1),D.i (-1),D.nil 2,D.nil 3,D.nil 3])::X::X::[]),yB (JAI.av v45)::N::N::yB JAG.zv::nn 75 ([])⟩) ?_ ?_
  ·intro k57 h;(conv=>whnf);refine inl Tryz.f17 77 (by kernel_rfl) (by kernel_rfl) ⟨rfl,?_⟩;exact AB wk h
  rintro _ h;cases h;exact⟨rfl,rfl⟩
 (conv=>whnf);refine .inl ?_;refine⟨rfl,?_⟩;refine⟨rfl,?_⟩;cases h;exact⟨rfl,rfl⟩
theorem Jn {a0:List UInt8}{a1:Int}{r:(List UInt8)}(h:Fa a0 a1=some r):yC wl 87 [AV.own 0 (List.map D.u8 a0).length,AV.d (D.i a1)] [.row 5 1 (List.map D.u8 a0) .no] (AV.own 0 (List.map D.u8 r).length) [.row 5 1 (List.map D.u8 r) .no]:=by
 refine oK Tryz.f87 ⟨rfl,?_⟩;unfold Fa at h;refine⟨by decide,_,rfl,?_⟩;refine⟨_,Af _,?_⟩;refine⟨_,Af _,?_⟩;refine⟨rfl,?_⟩;obtain⟨v1,g2,h⟩:=AA h;refine⟨rfl,AZ (f:=D.u8) (g:=D.u8) g2,_,Aa (f:=D.u8) g2,?_⟩;(conv=>whnf);refine .inl ?_;cases h;exact⟨rfl,rfl⟩
theorem Bj {a0:Int}{a1:Int}{a2:Int}{r:Bool}(h:A9 a0 a1 a2=some r):yC wl 118 [AV.d (D.i a0),AV.d (D.i a1),AV.d (D.i a2)] [] (.d (D.b r)) []:=by
 refine oK Tryz.f118 ⟨rfl,?_⟩;unfold A9 at h;revert h;refine AG (fun v1=>⟨dd 6 (yb v1::dd 8 ([])),nn 15 ([])⟩) ?_ ?_
 ·intro k2 h;exact sJ h (fun h=>AB wk h) fun h=>AB wk h
 rintro v1 h;cases h;exact⟨rfl,rfl⟩
theorem LS {a0:List JAA}{r:(List UInt8)×Int}(h:D7 a0=some r):yC wl 94 [AV.d (D.l 3 JAA.toD a0)] [] (.tup [.d (D.l 1 D.u8 r.1),.d (D.i r.2)]) []:=by
 refine oK Tryz.f94 ⟨rfl,?_⟩;unfold D7 at h;refine⟨a0.length,X10 _,?_⟩;revert h;refine AG (fun _=>⟨y4 a0::dd 79 ([]),nn 80 ([])⟩) ?_ ?_
 ·intro k1 h;revert h;refine Ag 11 3 JAA.toD rfl (fun i2 _=>⟨y4 a0::dd 10 (y4 a0::yi (a0.length:Int)::yi (i2:Int)::dd 66 ([])),nn 80 ([])⟩) ?_ ?_ ?_
  ·exact wk
  ·rintro _ K3 h;(conv=>whnf);refine .go ?_;(conv=>whnf);refine BL DL ?_;exact AB wk h
  rintro next4 i2 x5 _ K3 hii2 hxi2 hwi2 h hK6;(conv=>whnf);refine .go ?_;(conv=>whnf);refine BC (CX hii2) ?_;(conv=>whnf);refine .go ?_;refine⟨BB (f:=JAA.toD) hii2,JAA.toD x5,hxi2,rfl,?_⟩;revert h;refine AG (fun v7=>⟨y4 a0::dd 10 (y4 a0::yi (a0.length:Int)::yi (i2:Int)::dd 18 (yb v7::dd 47 ([]))),nn 80 ([])⟩) ?_ ?_
  ·intro k8 h;obtain⟨v9,g10,h⟩:=AA h;refine⟨_,_,some [],Bj g10,?_⟩;refine sJ h (fun h=>AB wk h) fun h=>?_;obtain⟨v11,g12,h⟩:=AA h;refine⟨_,_,some [],Bj g12,?_⟩;refine sJ h (fun h=>AB wk h) fun h=>?_;refine⟨x5.Data.length,X10 _,?_⟩;exact AB wk h
  rintro v7 h;(conv=>whnf);refine .go ?_;refine sJ h ?_ ?_<;>intro h
  ·(conv=>whnf);refine .inl ?_;refine⟨rfl,?_⟩;cases h;exact⟨rfl,rfl⟩
  refine⟨_,hwi2,?_⟩;exact hK6 _ _ wk h
 rintro _ h;refine⟨a0.length,X10 _,?_⟩;revert h;refine AG (fun v13=>⟨dd 6 (yO 6 D.u8 v13::dd 73 ([])),nn 6 (yR 5 1 D.u8 v13::nn 73 ([]))⟩) ?_ ?_
 ·intro k14 h;revert h;refine Ag 34 3 JAA.toD rfl (fun i15 v16=>⟨dd 6 (yO 6 D.u8 v16::dd 27 (y4 a0::yi (a0.length:Int)::yi (i15:Int)::dd 43 ([]))),nn 6 (yR 5 1 D.u8 v16::nn 73 ([]))⟩) ?_ ?_ ?_
  ·exact wk
  ·rintro v16 K17 h;(conv=>whnf);refine .go ?_;(conv=>whnf);refine BL DL ?_;exact AB wk h
  rintro next18 i15 x19 v16 K17 hii15 hxi15 hwi15 h hK20;(conv=>whnf);refine .go ?_;(conv=>whnf);refine BC (CX hii15) ?_;(conv=>whnf);refine .go ?_;refine⟨BB (f:=JAA.toD) hii15,JAA.toD x19,hxi15,rfl,?_⟩;(conv=>whnf);refine .inl (dO ?_);refine⟨_,Af _,?_⟩;refine⟨_,Af _,?_⟩;refine⟨x19.Data.length,X10 _,?_⟩;(conv=>whnf);refine cO ?_;revert h;refine AG (fun v21=>⟨dd 6 (yO 6 D.u8 v21::X::yr 8 0::dd 25 (y4 a0::yi (a0.length:Int)::yi (i15:Int)::dd 43 ([]))),nn 6 (yR 5 1 D.u8 v21::N::yB (JAA.av x19)::nn 71 ([]))⟩) ?_ ?_
  ·intro k22 h;refine sJ h ?_ ?_<;>intro h
   ·refine⟨_,Af _,?_⟩;refine⟨_,Af _,?_⟩;refine⟨by decide,_,rfl,?_⟩;refine⟨_,Af _,?_⟩;refine⟨_,Af _,?_⟩;refine⟨rfl,?_⟩;obtain⟨v23,g24,h⟩:=AA h;refine⟨rfl,AZ (f:=D.u8) (g:=D.u8) g24,_,Aa (f:=D.u8) g24,?_⟩;exact AB wk h
   refine⟨_,Af _,?_⟩;refine⟨_,Af _,?_⟩;refine⟨rfl,?_⟩;obtain⟨v25,g26,h⟩:=AA h;refine⟨rfl,AZ (f:=D.u8) (g:=D.u8) g26,_,Aa (f:=D.u8) g26,?_⟩;exact AB wk h
  rintro v21 h;obtain⟨v27,g28,h⟩:=AA h;refine⟨rfl,AZ (f:=D.u8) (g:=D.u8) g28,_,Aa (f:=D.u8) g28,?_⟩;refine⟨v27.length,by first | exact X10 _ | rfl | (simp only[X10];omega),?_⟩;(conv=>whnf);refine .go ?_;refine sJ h ?_ ?_<;>intro h
  ·(conv=>whnf);refine .inl ?_;refine⟨rfl,?_⟩;cases h;exact⟨rfl,rfl⟩
  refine⟨_,hwi15,?_⟩;exact hK20 _ _ wk h
 rintro v13 h;(conv=>whnf);refine .inl ?_;refine⟨rfl,?_⟩;cases h;exact⟨rfl,rfl⟩
theorem HJ {a0:Addr}{r:Bool}(h:Ei a0=some r):yC wl 99 [AV.d (Addr.toD a0)] [] (.d (D.b r)) []:=by
 refine oK Tryz.f99 ⟨rfl,?_⟩;unfold Ei at h;revert h;refine AG (fun v1=>⟨X::X::yb v1::dd 12 ([]),nn 15 ([])⟩) ?_ ?_
 ·intro k2 h;refine sJ h (fun h=>AB wk h) fun h=>?_;exact sJ h (fun h=>AB wk h) fun h=>AB wk h
 rintro v1 h;cases h;exact⟨rfl,rfl⟩
theorem Ed {a0:Addr}{r:(List UInt8)}(h:A5 a0=some r):yC wl 135 [AV.d (Addr.toD a0)] [] (.d (D.l 1 D.u8 r)) []:=by
 refine oK Tryz.f135 ⟨rfl,?_⟩;unfold A5 at h;obtain⟨v1,g2,h⟩:=AA h;refine⟨_,_,some [],HJ g2,?_⟩;(conv=>whnf);refine .go ?_;refine sJ h ?_ ?_<;>intro h
 ·(conv=>whnf);refine .inl ?_;cases h;exact⟨rfl,rfl⟩
 revert h;refine AG (fun v3=>⟨X::yr 1 0::X::yi v3::dd 34 ([]),N::yB (Addr.av a0)::nn 36 ([])⟩) ?_ ?_
 ·intro k4 h;exact sJ h (fun h=>AB wk h) fun h=>AB wk h
 rintro v3 h;obtain⟨_,g5,h⟩:=AA h;refine⟨UR g5 (X29 rfl),D.u8 (0:UInt8),rfl,(List.map D.u8 (List.replicate (Int.toNat v3) (0:UInt8))),List.map_replicate.symm,?_⟩;refine⟨_,rfl,?_⟩;revert h;refine AG (fun v6=>⟨dd 4 (yO 12 D.u8 v6::dd 33 ([])),nn 12 (yR 5 1 D.u8 v6::nn 25 ([]))⟩) ?_ ?_
 ·intro k7 h;revert h;refine Au (fun (v8,v9,v10)=>⟨X::yr 1 0::X::X::yO 12 D.u8 v10::yi v8::dd 32 ([]),N::yB (Addr.av v9)::nn 10 (yR 5 1 D.u8 v10::nn 25 ([]))⟩) ?_ ?_
  ·exact wk
  rintro next11 ⟨v8,v9,v10⟩ K12 h hK13;(conv=>whnf);refine .go ?_;refine sJ h (fun h=>?_) fun h=>AB wk h;(conv=>whnf);refine .go ?_;refine⟨_,Af _,?_⟩;obtain⟨v14,g15,h⟩:=AA h;refine⟨rfl,Ap (f:=D.u8) g15,?_⟩;obtain⟨v16,g17,h⟩:=AA h;have g17l:=Ld g17;refine⟨rfl,rfl,D.u8 v14,(An (f:=D.u8) g15),?_⟩;refine⟨_,RS (f:=D.u8) g17,?_⟩;refine⟨by decide,_,GQ v9.Lo _,?_⟩;refine⟨by decide,_,Ae _,?_⟩;refine⟨_,Ae _,?_⟩;refine⟨by decide,_,GQ v9.Hi _,?_⟩;refine⟨_,rfl,?_⟩;exact hK13 _ _ wk h
 rintro v6 h;(conv=>whnf);refine .inl ?_;(conv=>whnf);refine .inl ?_;refine⟨rfl,?_⟩;cases h;exact⟨rfl,rfl⟩
theorem Ib {a0:List UInt8}{a1:List JAD}{a2:Bool}{r:(List UInt8)}(h:Dm a0 a1 a2=some r):yC wl 96 [AV.own 0 (List.map D.u8 a0).length,AV.d (D.l 4 JAD.toD a1),AV.d (D.b a2)] [.row 5 1 (List.map D.u8 a0) .no] (AV.own 0 (List.map D.u8 r).length) [.row 5 1 (List.map D.u8 r) .no]:=by
 refine oK Tryz.f96 ⟨rfl,?_⟩;unfold Dm at h;refine⟨a1.length,X10 _,?_⟩;revert h;refine AG (fun v1=>⟨yO 0 D.u8 v1::dd 36 ([]),yR 5 1 D.u8 v1::nn 37 ([])⟩) ?_ ?_
 ·intro k2 h;revert h;refine Ag 9 4 JAD.toD rfl (fun i3 v4=>⟨yO 0 D.u8 v4::X::yb a2::dd 6 (y5 a1::yi (a1.length:Int)::yi (i3:Int)::dd 25 ([])),yR 5 1 D.u8 v4::nn 37 ([])⟩) ?_ ?_ ?_
  ·exact wk
  ·rintro v4 K5 h;(conv=>whnf);refine .go ?_;(conv=>whnf);refine BL DL ?_;exact AB wk h
  rintro next6 i3 x7 v4 K5 hii3 hxi3 hwi3 h hK8;(conv=>whnf);refine .go ?_;(conv=>whnf);refine BC (CX hii3) ?_;(conv=>whnf);refine .go ?_;refine⟨BB (f:=JAD.toD) hii3,JAD.toD x7,hxi3,rfl,?_⟩;revert h;refine AG (fun v9=>⟨yO 0 D.u8 v9::X::yb a2::dd 6 (y5 a1::yi (a1.length:Int)::yi (i3:Int)::dd 25 ([])),yR 5 1 D.u8 v9::nn 37 ([])⟩) ?_ ?_
  ·intro k10 h;refine sJ h (fun h=>?_) fun h=>AB wk h;(conv=>whnf);refine .inl (dO ?_);refine⟨_,Af _,?_⟩;refine⟨rfl,?_⟩;obtain⟨v11,g12,h⟩:=AA h;refine⟨rfl,AZ (f:=D.u8) (g:=D.u8) g12,_,Aa (f:=D.u8) g12,?_⟩;obtain⟨v13,g14,h⟩:=AA h;refine⟨_,_,Ed g14,.inl rfl,?_⟩;refine⟨_,rfl,?_⟩;refine⟨by decide,_,rfl,?_⟩;obtain⟨v15,g16,h⟩:=AA h;refine⟨EX (f:=D.u8) g16,_,EW (f:=D.u8) g16,?_⟩;obtain⟨v17,g18,h⟩:=AA h;refine⟨rfl,AZ (f:=D.u8) (g:=D.u8) g18,_,Aa (f:=D.u8) g18,?_⟩;(conv=>whnf);refine cO ?_;exact AB wk h
  rintro v9 h;refine⟨_,hwi3,?_⟩;exact hK8 _ _ wk h
 rintro v1 h;(conv=>whnf);refine .inl ?_;cases h;exact⟨rfl,rfl⟩
theorem Hg {a0:Int}{r:Bool}(h:Dx a0=some r):yC wl 139 [AV.d (D.i a0)] [] (.d (D.b r)) []:=by
 refine oK Tryz.f139 ⟨rfl,?_⟩;unfold Dx at h;revert h;refine AG (fun v1=>⟨X::X::yb v1::dd 6 ([]),nn 9 ([])⟩) ?_ ?_
 ·intro k2 h;exact sJ h (fun h=>AB wk h) fun h=>AB wk h
 rintro v1 h;cases h;exact⟨rfl,rfl⟩
theorem Ni {a0:List JAE}{r:Bool}(h:FB a0=some r):yC wl 138 [AV.d (D.l 2 JAE.toD a0)] [] (.d (D.b r)) []:=by
 refine oK Tryz.f138 ⟨rfl,?_⟩;unfold FB at h;refine⟨a0.length,X10 _,?_⟩;revert h;refine AG (fun v1=>⟨X::X::X::yi v1::dd 71 ([]),nn 75 ([])⟩) ?_ ?_
 ·intro k2 h;revert h;refine Ag 8 2 JAE.toD rfl (fun i3 v4=>⟨y0 a0::X::X::yi v4::dd 4 (y0 a0::yi (a0.length:Int)::yi (i3:Int)::dd 64 ([])),nn 75 ([])⟩) ?_ ?_ ?_
  ·exact wk
  ·rintro v4 K5 h;(conv=>whnf);refine .go ?_;(conv=>whnf);refine BL DL ?_;exact AB wk h
  rintro next6 i3 x7 v4 K5 hii3 hxi3 hwi3 h hK8;(conv=>whnf);refine .go ?_;(conv=>whnf);refine BC (CX hii3) ?_;revert h;refine AG (fun _=>⟨y0 a0::X::X::yi (AS (v4+(x7.ASNs.length:Int)))::dd 4 (y0 a0::yi (a0.length:Int)::yi (i3:Int)::dd 64 ([])),nn 75 ([])⟩) ?_ ?_
  ·intro k9 h;refine⟨BB (f:=JAE.toD) hii3,JAE.toD x7,hxi3,rfl,?_⟩;revert h;refine AG (fun v10=>⟨y0 a0::X::X::yi v4::X::yr 5 0::X::X::y0 a0::yi (a0.length:Int)::yi (i3:Int)::dd 25 (yb v10::dd 38 ([])),nn 5 (yB (JAE.av x7)::nn 69 ([]))⟩) ?_ ?_
   ·intro k11 h;refine⟨x7.ASNs.length,X10 _,?_⟩;refine sJ h (fun h=>AB wk h) fun h=>?_;refine sJ h (fun h=>?_) fun h=>AB wk h;refine sJ h (fun h=>?_) fun h=>AB wk h;refine⟨_,rfl,?_⟩;obtain⟨v12,g13,h⟩:=AA h;refine⟨Ap (f:=JAE.toD) g13,JAE.toD v12,An (f:=JAE.toD) g13,rfl,?_⟩;exact AB wk h
   rintro v10 h;(conv=>whnf);refine .go ?_;refine sJ h ?_ ?_<;>intro h
   ·cases h;exact⟨rfl,rfl⟩
   refine⟨x7.ASNs.length,X10 _,?_⟩;revert h;refine AG (fun _=>⟨y0 a0::X::X::yi v4::X::yr 5 0::X::X::y0 a0::yi (a0.length:Int)::yi (i3:Int)::dd 64 ([]),nn 5 (yB (JAE.av x7)::nn 69 ([]))⟩) ?_ ?_
   ·intro k14 h;revert h;refine Ag 38 1 D.i rfl (fun i15 _=>⟨y0 a0::X::X::yi v4::X::yr 5 0::X::X::y0 a0::yi (a0.length:Int)::yi (i3:Int)::dd 27 (AV.d (D.l 1 D.i x7.ASNs)::yi (x7.ASNs.length:Int)::yi (i15:Int)::dd 34 ([])),nn 5 (yB (JAE.av x7)::nn 69 ([]))⟩) ?_ ?_ ?_
    ·exact wk
    ·rintro _ K16 h;(conv=>whnf);refine .go ?_;(conv=>whnf);refine BL DL ?_;exact AB wk h
    rintro next17 i15 x18 _ K16 hii15 hxi15 hwi15 h hK19;(conv=>whnf);refine .go ?_;(conv=>whnf);refine BC (CX hii15) ?_;(conv=>whnf);refine .go ?_;refine⟨BB (f:=D.i) hii15,D.i x18,hxi15,rfl,?_⟩;revert h;refine AG (fun v20=>⟨y0 a0::X::X::yi v4::X::yr 5 0::X::X::y0 a0::yi (a0.length:Int)::yi (i3:Int)::dd 27 (AV.d (D.l 1 D.i x7.ASNs)::yi (x7.ASNs.length:Int)::yi (i15:Int)::dd 24 (yb v20::dd 9 ([]))),nn 5 (yB (JAE.av x7)::nn 69 ([]))⟩) ?_ ?_
    ·intro k21 h;obtain⟨v22,g23,h⟩:=AA h;refine⟨_,_,some [],Hg g23,?_⟩;refine sJ h (fun h=>AB wk h) fun h=>?_;refine sJ h (fun h=>?_) fun h=>AB wk h;refine sJ h (fun h=>?_) fun h=>AB wk h;refine⟨_,rfl,?_⟩;obtain⟨v24,g25,h⟩:=AA h;refine⟨Ap (f:=D.i) g25,D.i v24,An (f:=D.i) g25,rfl,?_⟩;exact AB wk h
    rintro v20 h;(conv=>whnf);refine .go ?_;refine sJ h ?_ ?_<;>intro h
    ·cases h;exact⟨rfl,rfl⟩
    refine⟨_,hwi15,?_⟩;exact hK19 _ _ wk h
   rintro _ h;refine⟨x7.ASNs.length,X10 _,?_⟩;refine⟨_,rfl,?_⟩;exact AB wk h
  rintro _ h;refine⟨_,hwi3,?_⟩;exact hK8 _ _ wk h
 rintro v1 h;cases h;exact⟨rfl,rfl⟩
theorem Ih {a0:List Int}{r:Int}(h:Cf a0=some r):yC wl 188 [AV.d (D.l 1 D.i a0)] [] (.d (D.i r)) []:=by
 refine oK Tryz.f188 ⟨rfl,?_⟩;unfold Cf at h;refine⟨a0.length,X10 _,?_⟩;(conv=>whnf);refine .go ?_;refine sJ h ?_ ?_<;>intro h
 ·exact nomatch h
 obtain⟨v1,g2,h⟩:=AA h;refine⟨Ap (f:=D.i) g2,D.i v1,An (f:=D.i) g2,rfl,?_⟩;revert h;refine AG (fun v3=>⟨X::X::X::yi v3::dd 21 ([]),nn 25 ([])⟩) ?_ ?_
 ·intro k4 h;revert h;refine Au (fun (v5,v6)=>⟨y6 a0::X::X::yi v5::yi v6::dd 20 ([]),nn 25 ([])⟩) ?_ ?_
  ·exact wk
  rintro next7 ⟨v5,v6⟩ K8 h hK9;refine⟨a0.length,X10 _,?_⟩;(conv=>whnf);refine .go ?_;refine sJ h (fun h=>?_) fun h=>AB wk h;(conv=>whnf);refine .go ?_;obtain⟨v10,g11,h⟩:=AA h;refine⟨Ap (f:=D.i) g11,D.i v10,An (f:=D.i) g11,rfl,?_⟩;refine⟨_,rfl,?_⟩;refine⟨_,rfl,?_⟩;exact hK9 _ _ wk h
 rintro v3 h;cases h;exact⟨rfl,rfl⟩
theorem Ig {a0:List Int}{r:Int}(h:CZ a0=some r):yC wl 189 [AV.d (D.l 1 D.i a0)] [] (.d (D.i r)) []:=by
 refine oK Tryz.f189 ⟨rfl,?_⟩;unfold CZ at h;refine⟨a0.length,X10 _,?_⟩;(conv=>whnf);refine .go ?_;refine sJ h ?_ ?_<;>intro h
 ·exact nomatch h
 obtain⟨v1,g2,h⟩:=AA h;refine⟨Ap (f:=D.i) g2,D.i v1,An (f:=D.i) g2,rfl,?_⟩;revert h;refine AG (fun v3=>⟨X::X::X::yi v3::dd 21 ([]),nn 25 ([])⟩) ?_ ?_
 ·intro k4 h;revert h;refine Au (fun (v5,v6)=>⟨y6 a0::X::X::yi v5::yi v6::dd 20 ([]),nn 25 ([])⟩) ?_ ?_
  ·exact wk
  rintro next7 ⟨v5,v6⟩ K8 h hK9;refine⟨a0.length,X10 _,?_⟩;(conv=>whnf);refine .go ?_;refine sJ h (fun h=>?_) fun h=>AB wk h;(conv=>whnf);refine .go ?_;obtain⟨v10,g11,h⟩:=AA h;refine⟨Ap (f:=D.i) g11,D.i v10,An (f:=D.i) g11,rfl,?_⟩;refine⟨_,rfl,?_⟩;refine⟨_,rfl,?_⟩;exact hK9 _ _ wk h
 rintro v3 h;cases h;exact⟨rfl,rfl⟩
theorem GH {a0:Int}{a1:List Int}{r:Bool}(h:CV a0 a1=some r):yC wl 181 [AV.d (D.i a0),AV.d (D.l 1 D.i a1)] [] (.d (D.b r)) []:=by
 refine oK Tryz.f181 ⟨rfl,?_⟩;unfold CV at h;revert h;refine AG (fun v1=>⟨dd 4 (yb v1::dd 9 ([])),nn 14 ([])⟩) ?_ ?_
 ·intro k2 h;obtain⟨v3,g4,h⟩:=AA h;refine⟨_,_,some [],Ih g4,?_⟩;refine sJ h (fun h=>?_) fun h=>AB wk h;obtain⟨v5,g6,h⟩:=AA h;refine⟨_,_,some [],Ig g6,?_⟩;exact AB wk h
 rintro v1 h;cases h;exact⟨rfl,rfl⟩
theorem K1 {a0:JAB}{r:Bool}(h:EI a0=some r):yC wl 163 [AV.d (JAB.toD a0)] [] (.d (D.b r)) []:=by
 refine oK Tryz.f163 ⟨rfl,?_⟩;unfold EI at h;refine⟨rfl,?_⟩;obtain⟨v1,g2,h⟩:=AA h;refine⟨_,_,none,GH g2,?_⟩;cases h;exact⟨rfl,rfl⟩
theorem He {a0:Int}{r:Bool}(h:cmp_isNaN_int a0=some r):yC wl 151 [AV.d (D.i a0)] [] (.d (D.b r)) []:=by
 refine oK Tryz.f151 ⟨rfl,?_⟩;unfold cmp_isNaN_int at h;cases h;exact⟨rfl,rfl⟩
theorem BS {a0:Int}{a1:Int}{r:Int}(h:cmp_Compare_int a0 a1=some r):yC wl 122 [AV.d (D.i a0),AV.d (D.i a1)] [] (.d (D.i r)) []:=by
 refine oK Tryz.f122 ⟨rfl,?_⟩;unfold cmp_Compare_int at h;obtain⟨v1,g2,h⟩:=AA h;refine⟨_,_,some [],He g2,?_⟩;obtain⟨v3,g4,h⟩:=AA h;refine⟨_,_,some [],He g4,?_⟩;(conv=>whnf);refine .go ?_;refine sJ h ?_ ?_<;>intro h
 ·(conv=>whnf);refine .go ?_;refine sJ h ?_ ?_<;>intro h
  ·cases h;exact⟨rfl,rfl⟩
  cases h;exact⟨rfl,rfl⟩
 (conv=>whnf);refine .go ?_;refine sJ h ?_ ?_<;>intro h
 ·cases h;exact⟨rfl,rfl⟩
 (conv=>whnf);refine .go ?_;refine sJ h ?_ ?_<;>intro h
 ·cases h;exact⟨rfl,rfl⟩
 (conv=>whnf);refine .go ?_;refine sJ h ?_ ?_<;>intro h
 ·cases h;exact⟨rfl,rfl⟩
 cases h;exact⟨rfl,rfl⟩
theorem Jr {a0:List Int}{r:Int}(h:FP a0=some r):yC wl 182 [AV.d (D.l 1 D.i a0)] [] (.d (D.i r)) []:=by
 refine oK Tryz.f182 ⟨rfl,?_⟩;unfold FP at h;refine⟨a0.length,X10 _,?_⟩;revert h;refine AG (fun _=>⟨X::X::X::yi 0::dd 14 ([]),nn 18 ([])⟩) ?_ ?_
 ·intro k1 h;revert h;refine Ag 6 1 D.i rfl (fun i2 _=>⟨X::X::X::yi 0::X::X::y6 a0::yi (a0.length:Int)::yi (i2:Int)::dd 9 ([]),nn 18 ([])⟩) ?_ ?_ ?_
  ·exact wk
  ·rintro _ K3 h;(conv=>whnf);refine .go ?_;(conv=>whnf);refine BL DL ?_;exact AB wk h
  rintro next4 i2 x5 _ K3 hii2 hxi2 hwi2 h hK6;(conv=>whnf);refine .go ?_;(conv=>whnf);refine BC (CX hii2) ?_;(conv=>whnf);refine .go ?_;refine⟨BB (f:=D.i) hii2,D.i x5,hxi2,rfl,?_⟩;(conv=>whnf);refine .go ?_;refine sJ h ?_ ?_<;>intro h
  ·cases h;exact⟨rfl,rfl⟩
  refine⟨_,hwi2,?_⟩;exact hK6 _ _ wk h
 rintro _ h;cases h;exact⟨rfl,rfl⟩
theorem Ii {a0:JAB}{a1:JAB}{r:Int}(h:DI a0 a1=some r):yC wl 164 [AV.d (JAB.toD a0),AV.d (JAB.toD a1)] [] (.d (D.i r)) []:=by
 refine oK Tryz.f164 ⟨rfl,?_⟩;unfold DI at h;(conv=>whnf);refine .inl (dO ?_);obtain⟨v1,g2,h⟩:=AA h;refine⟨_,_,BS g2,.inl rfl,?_⟩;obtain⟨v3,g4,h⟩:=AA h;refine⟨_,_,BS g4,.inl rfl,?_⟩;refine⟨rfl,?_⟩;obtain⟨v5,g6,h⟩:=AA h;refine⟨_,_,Jr g6,.inl rfl,?_⟩;(conv=>whnf);refine cO ?_;cases h;exact⟨rfl,rfl⟩
theorem BM {a0:List JAB}{r:Bool}(h:Ad a0=some r):yC wl 162 [AV.d (D.l 2 JAB.toD a0),AV.fn 163 [],AV.fn 164 []] [] (.d (D.b r)) []:=by
 refine oK Tryz.f162 ⟨rfl,?_⟩;unfold Ad at h;refine⟨a0.length,X10 _,?_⟩;revert h;refine AG (fun _=>⟨y1 a0::dd 38 ([]),nn 39 ([])⟩) ?_ ?_
 ·intro k1 h;revert h;refine Ag 9 2 JAB.toD rfl (fun i2 _=>⟨y1 a0::AV.fn 163 []::AV.fn 164 []::dd 6 (y1 a0::yi (a0.length:Int)::yi (i2:Int)::dd 27 ([])),nn 39 ([])⟩) ?_ ?_ ?_
  ·exact wk
  ·rintro _ K3 h;(conv=>whnf);refine .go ?_;(conv=>whnf);refine BL DL ?_;exact AB wk h
  rintro next4 i2 x5 _ K3 hii2 hxi2 hwi2 h hK6;(conv=>whnf);refine .go ?_;(conv=>whnf);refine BC (CX hii2) ?_;(conv=>whnf);refine .go ?_;refine⟨BB (f:=JAB.toD) hii2,JAB.toD x5,hxi2,rfl,?_⟩;revert h;refine AG (fun v7=>⟨y1 a0::AV.fn 163 []::AV.fn 164 []::dd 6 (y1 a0::yi (a0.length:Int)::yi (i2:Int)::dd 22 (yb v7::dd 4 ([]))),nn 39 ([])⟩) ?_ ?_
  ·intro k8 h;(conv=>whnf);refine .inl (dO ?_);obtain⟨v9,g10,h⟩:=AA h;refine⟨_,_,K1 g10,.inl rfl,?_⟩;refine sJ h ?_ ?_<;>intro h
   ·(conv=>whnf);refine cO ?_;exact AB wk h
   refine sJ h ?_ ?_<;>intro h
   ·refine⟨_,rfl,?_⟩;obtain⟨v11,g12,h⟩:=AA h;refine⟨Ap (f:=JAB.toD) g12,JAB.toD v11,An (f:=JAB.toD) g12,rfl,?_⟩;obtain⟨v13,g14,h⟩:=AA h;refine⟨_,_,Ii g14,.inl rfl,?_⟩;(conv=>whnf);refine cO ?_;exact AB wk h
   (conv=>whnf);refine cO ?_;exact AB wk h
  rintro v7 h;(conv=>whnf);refine .go ?_;refine sJ h ?_ ?_<;>intro h
  ·cases h;exact⟨rfl,rfl⟩
  refine⟨_,hwi2,?_⟩;exact hK6 _ _ wk h
 rintro _ h;refine⟨a0.length,X10 _,?_⟩;cases h;exact⟨rfl,rfl⟩
theorem Gn {a0:List JAB}{r:Bool}(h:C3 a0=some r):yC wl 140 [AV.d (D.l 2 JAB.toD a0)] [] (.d (D.b r)) []:=by
 refine oK Tryz.f140 ⟨rfl,?_⟩;unfold C3 at h;obtain⟨v1,g2,h⟩:=AA h;refine⟨_,_,some [],BM g2,?_⟩;cases h;exact⟨rfl,rfl⟩
theorem IJ {a0:JAF}{r:Bool}(h:CL a0=some r):yC wl 166 [AV.d (JAF.toD a0)] [] (.d (D.b r)) []:=by
 refine oK Tryz.f166 ⟨rfl,?_⟩;unfold CL at h;refine⟨rfl,?_⟩;obtain⟨v1,g2,h⟩:=AA h;refine⟨_,_,none,GH g2,?_⟩;cases h;exact⟨rfl,rfl⟩
theorem G5 {a0:JAF}{a1:JAF}{r:Int}(h:Bg a0 a1=some r):yC wl 167 [AV.d (JAF.toD a0),AV.d (JAF.toD a1)] [] (.d (D.i r)) []:=by
 refine oK Tryz.f167 ⟨rfl,?_⟩;unfold Bg at h;(conv=>whnf);refine .inl (dO ?_);obtain⟨v1,g2,h⟩:=AA h;refine⟨_,_,BS g2,.inl rfl,?_⟩;obtain⟨v3,g4,h⟩:=AA h;refine⟨_,_,BS g4,.inl rfl,?_⟩;obtain⟨v5,g6,h⟩:=AA h;refine⟨_,_,BS g6,.inl rfl,?_⟩;refine⟨rfl,?_⟩;obtain⟨v7,g8,h⟩:=AA h;refine⟨_,_,Jr g8,.inl rfl,?_⟩;(conv=>whnf);refine cO ?_;cases h;exact⟨rfl,rfl⟩
theorem BD {a0:List JAF}{r:Bool}(h:AW a0=some r):yC wl 165 [AV.d (D.l 3 JAF.toD a0),AV.fn 166 [],AV.fn 167 []] [] (.d (D.b r)) []:=by
 refine oK Tryz.f165 ⟨rfl,?_⟩;unfold AW at h;refine⟨a0.length,X10 _,?_⟩;revert h;refine AG (fun _=>⟨y2 a0::dd 38 ([]),nn 39 ([])⟩) ?_ ?_
 ·intro k1 h;revert h;refine Ag 9 3 JAF.toD rfl (fun i2 _=>⟨y2 a0::AV.fn 166 []::AV.fn 167 []::dd 6 (y2 a0::yi (a0.length:Int)::yi (i2:Int)::dd 27 ([])),nn 39 ([])⟩) ?_ ?_ ?_
  ·exact wk
  ·rintro _ K3 h;(conv=>whnf);refine .go ?_;(conv=>whnf);refine BL DL ?_;exact AB wk h
  rintro next4 i2 x5 _ K3 hii2 hxi2 hwi2 h hK6;(conv=>whnf);refine .go ?_;(conv=>whnf);refine BC (CX hii2) ?_;(conv=>whnf);refine .go ?_;refine⟨BB (f:=JAF.toD) hii2,JAF.toD x5,hxi2,rfl,?_⟩;revert h;refine AG (fun v7=>⟨y2 a0::AV.fn 166 []::AV.fn 167 []::dd 6 (y2 a0::yi (a0.length:Int)::yi (i2:Int)::dd 22 (yb v7::dd 4 ([]))),nn 39 ([])⟩) ?_ ?_
  ·intro k8 h;(conv=>whnf);refine .inl (dO ?_);obtain⟨v9,g10,h⟩:=AA h;refine⟨_,_,IJ g10,.inl rfl,?_⟩;refine sJ h ?_ ?_<;>intro h
   ·(conv=>whnf);refine cO ?_;exact AB wk h
   refine sJ h ?_ ?_<;>intro h
   ·refine⟨_,rfl,?_⟩;obtain⟨v11,g12,h⟩:=AA h;refine⟨Ap (f:=JAF.toD) g12,JAF.toD v11,An (f:=JAF.toD) g12,rfl,?_⟩;obtain⟨v13,g14,h⟩:=AA h;refine⟨_,_,G5 g14,.inl rfl,?_⟩;(conv=>whnf);refine cO ?_;exact AB wk h
   (conv=>whnf);refine cO ?_;exact AB wk h
  rintro v7 h;(conv=>whnf);refine .go ?_;refine sJ h ?_ ?_<;>intro h
  ·cases h;exact⟨rfl,rfl⟩
  refine⟨_,hwi2,?_⟩;exact hK6 _ _ wk h
 rintro _ h;refine⟨a0.length,X10 _,?_⟩;cases h;exact⟨rfl,rfl⟩
theorem E4 {a0:List JAF}{r:Bool}(h:BW a0=some r):yC wl 141 [AV.d (D.l 3 JAF.toD a0)] [] (.d (D.b r)) []:=by
 refine oK Tryz.f141 ⟨rfl,?_⟩;unfold BW at h;obtain⟨v1,g2,h⟩:=AA h;refine⟨_,_,some [],BD g2,?_⟩;cases h;exact⟨rfl,rfl⟩
theorem JM {a0:Int}{r:Bool}(h:DJ a0=some r):yC wl 116 [AV.d (D.i a0)] [] (.d (D.b r)) []:=by
 refine oK Tryz.f116 ⟨rfl,?_⟩;unfold DJ at h;revert h;refine AG (fun v1=>⟨X::X::yb v1::dd 12 ([]),nn 15 ([])⟩) ?_ ?_
 ·intro k2 h;obtain⟨v3,g4,h⟩:=AA h;refine⟨_,B8 (ek:=D.i) (ev:=D.i) (l:=Ba) (k:=a0) Bd,D.i v3,FH (z:=0) rfl g4,_,rfl,?_⟩;refine sJ h (fun h=>?_) fun h=>AB wk h;exact sJ h (fun h=>AB wk h) fun h=>AB wk h
 rintro v1 h;cases h;exact⟨rfl,rfl⟩
theorem GL {a0:List JAA}{r:Bool}(h:CW a0=some r):yC wl 142 [AV.d (D.l 3 JAA.toD a0)] [] (.d (D.b r)) []:=by
 refine oK Tryz.f142 ⟨rfl,?_⟩;unfold CW at h;refine⟨a0.length,X10 _,?_⟩;revert h;refine AG (fun _=>⟨y4 a0::dd 51 ([]),nn 52 ([])⟩) ?_ ?_
 ·intro k1 h;revert h;refine Ag 5 3 JAA.toD rfl (fun i2 _=>⟨y4 a0::dd 4 (y4 a0::yi (a0.length:Int)::yi (i2:Int)::dd 44 ([])),nn 52 ([])⟩) ?_ ?_ ?_
  ·exact wk
  ·rintro _ K3 h;(conv=>whnf);refine .go ?_;(conv=>whnf);refine BL DL ?_;exact AB wk h
  rintro next4 i2 x5 _ K3 hii2 hxi2 hwi2 h hK6;(conv=>whnf);refine .go ?_;(conv=>whnf);refine BC (CX hii2) ?_;(conv=>whnf);refine .go ?_;refine⟨BB (f:=JAA.toD) hii2,JAA.toD x5,hxi2,rfl,?_⟩;revert h;refine AG (fun v7=>⟨y4 a0::dd 4 (y4 a0::yi (a0.length:Int)::yi (i2:Int)::dd 39 (yb v7::dd 4 ([]))),nn 52 ([])⟩) ?_ ?_
  ·intro k8 h;(conv=>whnf);refine .inl (dO ?_);obtain⟨v9,g10,h⟩:=AA h;refine⟨_,_,JM g10,.inl rfl,?_⟩;refine sJ h ?_ ?_<;>intro h
   ·(conv=>whnf);refine cO ?_;exact AB wk h
   obtain⟨v11,g12,h⟩:=AA h;refine⟨_,_,Bj g12,.inl rfl,?_⟩;refine sJ h ?_ ?_<;>intro h
   ·(conv=>whnf);refine cO ?_;exact AB wk h
   refine sJ h ?_ ?_<;>intro h
   ·(conv=>whnf);refine cO ?_;exact AB wk h
   refine⟨x5.Data.length,X10 _,?_⟩;refine sJ h ?_ ?_<;>intro h
   ·(conv=>whnf);refine cO ?_;exact AB wk h
   refine sJ h ?_ ?_<;>intro h
   ·refine⟨_,rfl,?_⟩;obtain⟨v13,g14,h⟩:=AA h;refine⟨Ap (f:=JAA.toD) g14,JAA.toD v13,An (f:=JAA.toD) g14,rfl,?_⟩;(conv=>whnf);refine cO ?_;exact AB wk h
   (conv=>whnf);refine cO ?_;exact AB wk h
  rintro v7 h;(conv=>whnf);refine .go ?_;refine sJ h ?_ ?_<;>intro h
  ·cases h;exact⟨rfl,rfl⟩
  refine⟨_,hwi2,?_⟩;exact hK6 _ _ wk h
 rintro _ h;refine⟨a0.length,X10 _,?_⟩;cases h;exact⟨rfl,rfl⟩
theorem Gx {a0:JAC}{r:Bool}(h:CG a0=some r):yC wl 105 [AV.d (JAC.toD a0)] [] (.d (D.b r)) []:=by
 refine oK Tryz.f105 ⟨rfl,?_⟩;unfold CG at h;revert h;refine AG (fun v1=>⟨X::X::yb v1::dd 48 ([]),nn 51 ([])⟩) ?_ ?_
 ·intro k2 h;obtain⟨v3,g4,h⟩:=AA h;refine⟨_,_,some [],Bj g4,?_⟩;refine sJ h (fun h=>?_) fun h=>AB wk h;obtain⟨v5,g6,h⟩:=AA h;refine⟨_,_,some [],Ni g6,?_⟩;refine sJ h (fun h=>?_) fun h=>AB wk h;obtain⟨v7,g8,h⟩:=AA h;refine⟨_,_,some [],HJ g8,?_⟩;refine sJ h (fun h=>?_) fun h=>AB wk h;obtain⟨v9,g10,h⟩:=AA h;refine⟨_,_,some [],Bj g10,?_⟩;refine sJ h (fun h=>?_) fun h=>AB wk h;obtain⟨v11,g12,h⟩:=AA h;refine⟨_,_,some [],Bj g12,?_⟩;refine sJ h (fun h=>?_) fun h=>AB wk h;refine sJ h ?_ ?_<;>intro h
  ·obtain⟨v13,g14,h⟩:=AA h;refine⟨_,_,some [],Gn g14,?_⟩;refine sJ h (fun h=>?_) fun h=>AB wk h;obtain⟨v15,g16,h⟩:=AA h;refine⟨_,_,some [],E4 g16,?_⟩;refine sJ h (fun h=>?_) fun h=>AB wk h;obtain⟨v17,g18,h⟩:=AA h;refine⟨_,_,some [],GL g18,?_⟩;exact AB wk h
  obtain⟨v19,g20,h⟩:=AA h;refine⟨_,_,some [],Hg g20,?_⟩;refine sJ h (fun h=>?_) fun h=>AB wk h;obtain⟨v21,g22,h⟩:=AA h;refine⟨_,_,some [],Gn g22,?_⟩;refine sJ h (fun h=>?_) fun h=>AB wk h;obtain⟨v23,g24,h⟩:=AA h;refine⟨_,_,some [],E4 g24,?_⟩;refine sJ h (fun h=>?_) fun h=>AB wk h;obtain⟨v25,g26,h⟩:=AA h;refine⟨_,_,some [],GL g26,?_⟩;exact AB wk h
 rintro v1 h;cases h;exact⟨rfl,rfl⟩
theorem G4 {a0:List UInt8}{r:(List UInt8)}(h:BK a0=some r):yC wl 119 [AV.d (D.l 1 D.u8 a0)] [] (.d (D.l 1 D.u8 r)) []:=by
 refine oK Tryz.f119 ⟨rfl,?_⟩;unfold BK at h;refine⟨?_,fun hz=>?_⟩
 ·(conv=>whnf);refine .go ?_;obtain⟨v1,g2,h⟩:=AA h;refine⟨rfl,AZ (f:=D.u8) (g:=D.u8) g2,_,Aa (f:=D.u8) g2,?_⟩;(conv=>whnf);refine .inl ?_;(conv=>whnf);refine .inl ?_;refine⟨rfl,?_⟩;cases h;exact⟨rfl,rfl⟩
 obtain rfl:a0=[]:=(by simpa using hz);replace h:=SH h;(conv=>whnf);refine .go ?_;(conv=>whnf);refine .inl ?_;cases h;exact⟨rfl,rfl⟩
end Go.AX.Q19
end
section
namespace Go.AX
open Go.Proofs Go.Sort Go.Shelf Go.RowKit
theorem Re {vals:Array Value}{v u:Value}(hs:vals.size=2)(h:vals.getD 0 undef=v)(h':vals.getD 1 undef=u):vals=#[v,u]:=by
 match vals,hs with
 | ⟨[a,b]⟩,_=>
  simp at h h'
  rw[h,h']
theorem GB {α:Type}[Inhabited α](enc:α->List Value)(k:Nat)(w:World)(blk off n:Nat)(d:Array α)(os:Array Obj)(hb:blk<w.heap.size) :
  (∀b,b<w.heap.size->b≠blk->(sortWorldK enc k w blk off n d os).heap[b]?=w.heap[b]?)/\w.heap.size<=(sortWorldK enc k w blk off n d os).heap.size/\
  (∀vs e fr,w.heap[blk]?=some (.cells vs e fr)->(sortWorldK enc k w blk off n d os).heap[blk]?=some (.cells (putCells id off (flatK enc k d) vs) e fr))/\
  (sortWorldK enc k w blk off n d os).os=w.os/\(sortWorldK enc k w blk off n d os).output=w.output/\(sortWorldK enc k w blk off n d os).tape=w.tape/\w.drawn<=(sortWorldK enc k w blk off n d os).drawn:=by
 have hh:(sortWorldK enc k w blk off n d os).heap=(w.heap.modify blk (onCells (putCells id off (flatK enc k d))))++os:=rfl
 refine⟨fun b h1 h2=>?_,?_,fun vs e fr h=>?_,rfl,rfl,rfl,Nat.le_add_right _ _⟩
 ·rw[hh,Array.getElem?_append_left (by simpa using h1),Array.getElem?_modify,if_neg (Ne.symm h2)]
 ·rw[hh];simp
 rw[hh,Array.getElem?_append_left (by simpa using hb),Array.getElem?_modify,if_pos rfl,h]
 rfl
theorem YO {W w':World}(hp :∀b,b<W.heap.size->w'.heap[b]?=W.heap[b]?)(sz:W.heap.size<=w'.heap.size)(os:w'.os=W.os)(out:w'.output=W.output)(tape:w'.tape=W.tape)(dr:W.drawn<=w'.drawn) :
  ∃q os',w'=grow (W.drewN q) os':=by
 refine⟨w'.drawn-W.drawn,w'.heap.extract W.heap.size w'.heap.size,?_⟩
 obtain⟨h1,t1,d1,o1,u1⟩:=w'
 obtain⟨h2,t2,d2,o2,u2⟩:=W
 simp only at hp sz os out tape dr
 subst os out tape
 have hheap:h1=h2++h1.extract h2.size h1.size:=by
  apply Array.ext_getElem?
  intro i
  by_cases hi:i<h2.size
  ·rw[Array.getElem?_append_left hi];exact hp i hi
  rw[Array.getElem?_append_right (by omega),Array.getElem?_extract]
  by_cases hi2:i<h1.size
  ·rw[if_pos (by omega),show h2.size+(i-h2.size)=i by omega]
  rw[if_neg (by omega),Array.getElem?_eq_none (by omega)]
 have hd:d1=d2+(d1-d2):=by omega
 unfold grow World.drewN
 simp only
 congr 1
theorem We {wl:WL}{P:Program}{ρ:Ren}{X:Type}{f:X->D}{cmp:X->X->Option Int}{g k e:Nat}(L:SlLaysF0.n6 P ρ)(hf:Zi P (ρ.f 6))(aE :∀w,(isAgg (ρ.t 24)).run P w=.ok true w)(zE :∀w,(Go.sizeOf (ρ.t 24)).run P w=.ok k w)
  (eg :∀args w,(callFunc g args).run P w=.ok (.enter g args) w) (hagg :∀x,(f x).isAgg=true) (hcmp :∀{a b r},cmp a b=some r->Cj wl.low P g [.d (f a),.d (f b)] [] (.i r) [])
  {l r:List X} (h:FO cmp l=some r):Cj wl P (ρ.f 6) [.own 0 (List.map f l).length,.fn g []] [.row e k (List.map f l) .no] (.tup []) [.row e k (List.map f r) .no]:=by
 refine⟨hf,fun w S φ gb hg vals hs hr hn m=>?_⟩
 have r0:=(hr 0 (by simp)).1
 have r1:=(hr 1 (by simp)).1
 simp only[List.getElem_cons_zero,List.getElem_cons_succ] at r0 r1
 have hv:=Re hs rfl rfl
 generalize vals.getD 0 undef=v0 at r0 hv
 generalize vals.getD 1 undef=v1 at r1 hv
 cases r1 with | fn _ _ vs1 _ hs1 _ _=>
 obtain rfl:vs1=#[]:=Array.eq_empty_of_size_eq_zero (by simpa using hs1)
 cases r0 with | own _ _ _ kk c a0 hv0 hk0 h1 hb=>
 have hob:ofL [OB.row e k (List.map f l) .no] 0=some (.row e k (List.map f l) .no):=rfl
 obtain⟨_,hown⟩:=h1 _ _ _ _ hob
 have hown:=hown rfl
 have hmem:=m.obj 0 _ hob
 obtain⟨g0,g1,g2,g3⟩:=hmem
 have hol :∀r',ofL [OB.row e k (List.map f r') .no]=upd (ofL [OB.row e k (List.map f l) .no]) 0 (some (.row e k (List.map f r') .no)):=by
  intro r'
  funext q
  match q with
  | 0=>simp[ofL]
  | q+1=>simp[ofL,upd]
 by_cases hl:0<l.length
 rotate_left
 ·
  have hl0:l=[]:=List.eq_nil_of_length_eq_zero (by omega)
  subst hl0
  obtain⟨hp,_⟩:=Jw h
  obtain rfl:r=[]:=hp.eq_nil
  obtain⟨p,cap,hvp⟩ :∃p cap,v0=.slice p 0 cap:=by rw[hv0,hk0];exact⟨_,_,rfl⟩
  rw[hv,hvp]
  refine (AnyF.slices_SortFunc_none L p cap _ w).mono fun e' w' ⟨he,hw⟩=>⟨_,he,S,φ,hw ▸ m,hw ▸ .refl _ _ _ _,.tup [] #[] (fun _=>undef) rfl (fun i hi=>by simp at hi) (fun i hi=>by simp at hi),fun q hq=>by simp[AV.refs,AV.refs.refsL] at hq⟩
 rcases g3 with ⟨_,hnil⟩|⟨b,cap,vs,f0,f1,f2,f3,f4,f5,f6,f7,f8⟩
 ·simp at hnil
  subst hnil
  simp at hl
 obtain⟨hlen,hget⟩:=Qb h hl
 have hsw:Q0 cmp l=true:=by
  unfold FO at h
  split at h
  ·assumption
  simp at h
 obtain⟨hpsz,hpperm,_⟩:=MQ hsw hl
 have hv0':v0=.slice (some ⟨b,cap.2,none⟩) l.length cap.1:=by
  rcases hown with ⟨hφ0,_⟩|⟨b',cap',hφ0,hvv⟩
  ·rw[f1] at hφ0;simp at hφ0
  rw[f1] at hφ0
  simp only[X24,X26] at hφ0
  obtain⟨rfl,rfl⟩:=hφ0
  rw[hvv];simp
 have hbl:=(m.ow 0 b cap (by simp[ofL]) f1).1
 let ix:Nat->Nat:=fun i=>min i (l.length-1)
 have hix :∀i,ix i<l.length:=fun i=>by simp only[ix];omega
 let enc:Nat->List Value:=fun i=>(List.range k).map fun j=>f0 (ix i) j
 have hencl :∀x,(enc x).length=k:=fun x=>by simp[enc]
 have helem :∀i (hi:i<l.length),(f l[i]).cells.length=k:=fun i hi=>by have:=g1 i (by simpa using hi);simpa using this
 have hrep :∀i (hi:i<l.length) j (hj:j<k),∃hj':j<(f l[i]).cells.length,RepD S w ((f l[i]).cells[j]'hj') (f0 i j)/\((f l[i]).cells[j]'hj').isAgg=false:=by
  intro i hi j hj
  have hj':j<(f l[i]).cells.length:=by rw[helem i hi];exact hj
  refine⟨hj',?_,?_⟩
  ·have:=f7 i (by simpa using hi) j (by simpa using hj');simpa using this
  have:=g2 i (by simpa using hi) j (by simpa using hj');simpa using this
 have hone :∀x,∀v∈enc x,v.oneCell'=true:=by
  intro x v hv
  obtain⟨j,hj,rfl⟩:=List.mem_map.1 hv
  obtain⟨hj',h2,h3⟩:=hrep (ix x) (hix x) j (by simpa using hj)
  exact h2.one h3
 have hflat :∀(d:Array Nat) t,t<d.size*k->(flatK enc k d)[t]! = f0 (ix d[t/k]!) (t%k):=by
  intro d t ht
  have hk0:0<k:=g0
  rw[get_flatK _ _ _ _ ht]
  have:=Nat.mod_lt t hk0
  simp[enc,this]
 have hH:HoldsK enc k w b cap.2 (Array.range l.length):=by
  intro t ht
  have ht':t<l.length*k:=by simpa using ht
  have hk0:0<k:=g0
  have hq:t/k<l.length:=Nat.div_lt_of_lt_mul (by rwa [Nat.mul_comm])
  rw[hflat _ t (by simpa using ht')]
  have h1:(Array.range l.length)[t/k]! = t/k:=by simp[hq]
  have h2:ix (t/k)=t/k:=by simp only[ix];omega
  have h3:=f6 (t/k) (t%k) (by simpa using hq) (Nat.mod_lt t hk0)
  have h4:t/k*k+t%k=t:=by rw[Nat.mul_comm];exact Nat.div_add_mod t k
  rw[h4] at h3
  rw[h1,h2]
  refine⟨?_,?_⟩
  ·simp only[World.cell?,f2,id]
   exact h3
  simp[World.frozen?,f2]
 have hkeep :∀(n:Nat) (d:Array Nat) (os:Array Obj),KZ S w S (sortWorldK enc k w b cap.2 n d os):=by
  intro n d os b' o hS
  obtain⟨h1,_⟩:=GB enc k w b cap.2 n d os hbl
  have hne:b'≠b:=fun he=>f8.1 o (by simp) (he ▸ hS)
  exact⟨hS,B5 (h1 b' (m.bS b' o hS) hne) o⟩
 have hrepE :∀{W:World},KZ S w S W->∀i (hi:i<l.length),RepD S W (f l[i]) (.agg ((List.range k).map fun j=>f0 i j).toArray):=by
  intro W hK i hi
  have ha:=hagg l[i]
  cases hfl:f l[i] with
  | agg cs=>
   have hcs:cs.length=k:=by have:=helem i hi;rw[hfl] at this;exact this
   refine .agg cs _ (fun j=>f0 i j) (by simp[hcs]) (fun j hj=>by simp[hcs ▸ hj]) (fun j hj=>?_) fun j hj=>?_
   ·obtain⟨hj',_,h3⟩:=hrep i hi j (hcs ▸ hj)
    simp only[hfl,D.cells] at h3
    exact h3
   obtain⟨hj',h2,_⟩:=hrep i hi j (hcs ▸ hj)
   simp only[hfl,D.cells] at h2
   exact h2.mono hK
  | val v=>rw[hfl] at ha;simp[D.isAgg] at ha
  | nil sz=>rw[hfl] at ha;simp[D.isAgg] at ha
  | lst sz es=>rw[hfl] at ha;simp[D.isAgg] at ha
 have hfull :∀x,∃(hi:ix x<l.length),enc x=(List.range k).map fun j=>f0 (ix x) j:=fun x=>⟨hix x,rfl⟩
 have hlays:CmpLays P g #[] enc k (cfI cmp l) b cap.2 (Array.range l.length).size w:=by
  intro q os dk hdk x y
  obtain⟨w1,w2,w3,w4,w5,w6,w7⟩:=GB enc k w b cap.2 q dk os hbl
  have hK:=hkeep q dk os
  generalize hW:sortWorldK enc k w b cap.2 q dk os=W at *
  have hx:=hix x
  have hy:=hix y
  obtain⟨c1,_⟩:=L0 hsw
  obtain⟨rr,hrr⟩:=c1 l[ix x] (List.getElem_mem hx) l[ix y] (List.getElem_mem hy)
  have hcf:cfI cmp l x y=rr:=by
   have e1:ixL l x=some l[ix x]:=X15 hx
   have e2:ixL l y=some l[ix y]:=X15 hy
   unfold cfI
   rw[e1,e2]
   simp[hrr]
  have hn0 :∀r,ofL [] r=none:=fun r=>by simp[ofL]
  have hgW:GlobOK wl.low gb (IG (fun _:Nat=>(none:Option (Nat×Rp))) ([]:List OB).length) S W:=by
   have e :∀b',gb b'->W.heap[b']?=w.heap[b']?:=fun b' hb'=>w1 b' (hg.lt b' hb') fun he=>hg.pb b' hb' ⟨0,cap,by simp,he ▸ f1⟩
   refine⟨wl.ext _ _ _ e hg.gf,fun b' hb'=>Nat.lt_of_lt_of_le (hg.lt b' hb') w2,?_,fun b' o hb' hc=>hg.st b' o hb' ?_⟩
   ·rintro b' hb' ⟨r,c,h1,_⟩
    simp at h1
   rw[<- B5 (e b' hb') o]
   exact hc
  refine ((hcmp hrr).2 W S (fun _=>none) gb hgW (#[.agg (enc x).toArray,.agg (enc y).toArray]++#[]) (by simp) (fun i hi=>?_) (fun _ _=>rfl) ⟨fun r o ho=>by rw[hn0] at ho;simp at ho,fun r _ _ _ _ hr=>absurd (hn0 r) hr,fun r o ho=>by rw[hn0] at ho;simp at ho,fun _ _ h=>h,fun _ _ _=>rfl,fun b' o hS=>Nat.lt_of_lt_of_le (m.bS b' o hS) w2,fun _ _ h _ _=>h,fun _ _ _=>rfl,Nat.le_refl _,fun r _ _ hr=>absurd (hn0 r) hr,⟨rfl,rfl,rfl,.inr (Nat.le_refl _)⟩⟩).mono fun e' w' he=>?_
  ·refine⟨?_,?_⟩
   ·match i,hi with
    | 0,_=>exact .d _ _ (hrepE hK (ix x) hx)
    | 1,_=>exact .d _ _ (hrepE hK (ix y) hy)
   match i,hi with
   | 0,_=>exact Ax _ _
   | 1,_=>exact Ax _ _
  obtain⟨v,rfl,S',φ',mm,_,hvv,_⟩:=he
  refine⟨by rw[hvv.int,hcf],?_⟩
  have hpb :∀b',¬ IG (fun _:Nat=>(none:Option (Nat×Rp))) ([]:List OB).length b':=by rintro b' ⟨r,c,h1,_⟩;simp at h1
  refine YO (fun b' hb'=>mm.fr b' hb' (hpb b')) mm.sz mm.os.1 mm.os.2.1 mm.os.2.2.1 ?_
  rcases mm.os.2.2.2 with h | h
  ·exact h.elim
  exact h
 have hc:=AnyQ.slices_SortFunc_eq L k aE zE enc hencl hone (cfI cmp l) (VQ hsw hl) g #[] b cap.2 cap.1 (Array.range l.length) w eg hlays hH hbl (by
  have:=(L0 hsw).2.2.2.2
  simp;omega)
 rw[hv,hv0']
 have hsz0:(Array.range l.length).size=l.length:=by simp
 rw[hsz0] at hc
 refine hc.mono fun e' w' ⟨he,n,os,hw⟩=>?_
 have hd:pdq (ltOf (cfI cmp l)) (Array.range l.length) 0 l.length (Lib.bitLen l.length) true true=FU cmp l:=rfl
 rw[hd] at hw
 obtain⟨w1,w2,w3,w4,w5,w6,w7⟩:=GB enc k w b cap.2 n (FU cmp l) os hbl
 rw[<- hw] at w1 w2 w3 w4 w5 w6 w7
 have hcur:=w3 _ _ _ f2
 have hr' :∀i (hi:i<r.length),∃(hp:(FU cmp l)[i]!<l.length),r[i]=l[(FU cmp l)[i]!]:=by
  intro i hi
  obtain⟨p1,p2⟩:=hget i (by omega)
  rw[X15 hi,X15 p1] at p2
  exact⟨p1,X25 p2⟩
 obtain⟨m2,k2⟩:=m.rowSet (es':=List.map f r) (cur':=putCells id cap.2 (flatK enc k (FU cmp l)) vs) (w':=w') hob f1 f2 (by simp[hlen])
  (fun i hi=>by
   have hi':i<r.length:=by simpa using hi
   obtain⟨hp,he⟩:=hr' i hi'
   simp only[List.getElem_map,he]
   exact helem _ hp)
  (fun i hi j hj=>by
   have hi':i<r.length:=by simpa using hi
   obtain⟨hp,he⟩:=hr' i hi'
   simp only[List.getElem_map,he] at hj ⊢
   obtain⟨hj',_,h3⟩:=hrep _ hp j (by rw[helem _ hp] at hj;exact hj)
   exact h3)
  hcur (by simp[putCells]) (fun b' h1 h2=>w1 b' h1 h2) w2 ⟨w4,w5,w6,w7⟩ (fun i j=>f0 (FU cmp l)[i]! j)
  (fun i j hi hj=>by
   have hi':i<r.length:=by simpa using hi
   obtain⟨hp,he⟩:=hr' i hi'
   have hil:i<l.length:=by omega
   have hik:i*k+j<l.length*k:=by
    have:=X31 k (show i+1<=l.length from hil)
    rw[X32,Nat.one_mul] at this
    omega
   have hbig:cap.2+(i*k+j)<vs.size:=by
    have h3:l.length<=cap.1:=by simpa using f3
    have:=X31 k h3
    omega
   have e1:(i*k+j)/k=i:=by rw[Nat.mul_comm,Nat.mul_add_div g0,Nat.div_eq_of_lt hj,Nat.add_zero]
   have e2:(i*k+j)%k=j:=by rw[Nat.mul_comm,Nat.mul_add_mod,Nat.mod_eq_of_lt hj]
   have hfl:=hflat (FU cmp l) (i*k+j) (by rw[hpsz];exact hik)
   rw[e1,e2] at hfl
   have hixx:ix (FU cmp l)[i]! = (FU cmp l)[i]!:=by simp only[ix];omega
   rw[hixx] at hfl
   simp only[putCells,Array.getElem?_mapIdx,Array.getElem?_eq_getElem hbig,Option.map_some]
   rw[if_pos ⟨by omega,by rw[size_flatK,hpsz];omega⟩,show cap.2+(i*k+j)-cap.2=i*k+j by omega,hfl]
   rfl)
  (fun i hi j hj=>by
   have hi':i<r.length:=by simpa using hi
   obtain⟨hp,he⟩:=hr' i hi'
   simp only[List.getElem_map,he] at hj ⊢
   obtain⟨hj',h2,_⟩:=hrep _ hp j (by rw[helem _ hp] at hj;exact hj)
   exact h2)
 rw[<- hol r] at m2 k2
 exact⟨_,he,S,φ,m2,k2,.tup [] #[] (fun _=>undef) rfl (fun i hi=>by simp at hi) (fun i hi=>by simp at hi),fun q hq=>by simp[AV.refs,AV.refs.refsL] at hq⟩
end Go.AX
end
section
namespace Go.Proofs
open Go.Shelf
def Tryz.l120_ren:Go.Shelf.Ren:=⟨fun | 6=>120 | 15=>150 | 14=>149 | 28=>176 | 29=>177 | 20=>168 | 21=>169 | 22=>170 | 23=>171 | 24=>172 | 25=>173 | 26=>174 | 27=>175 | 46=>183 | 47=>184 | 48=>185 | 49=>186 | 50=>187 | 57=>190 | n=>n,fun | 22=>32 | 24=>88 | 25=>164 | 3=>3 | 39=>67 | 0=>0 | 53=>207 | 55=>27 | 4=>4 | 46=>200 | 45=>199 | 50=>204 | 5=>5 | 9=>9 | 66=>215 | 70=>219 | 76=>222 | 77=>223 | n=>n,fun | n=>n⟩
theorem Tryz.l120:Go.Proofs.SlLaysF0.n6 Tryz.prog Tryz.l120_ren:={
 mixed:=by kernel_rfl
 f6:=⟨Tryz.f120.name,by decide,Tryz.func120.trans (congrArg some (by kernel_rfl))⟩
 f14:=⟨Tryz.f149.name,by decide,Tryz.func149.trans (congrArg some (by kernel_rfl))⟩
 f15:=Tryz.func150.trans (congrArg some (by kernel_rfl))
 f20:=⟨Tryz.f168.name,by decide,Tryz.func168.trans (congrArg some (by kernel_rfl))⟩
 f21:=⟨Tryz.f169.name,by decide,Tryz.func169.trans (congrArg some (by kernel_rfl))⟩
 f22:=⟨Tryz.f170.name,by decide,Tryz.func170.trans (congrArg some (by kernel_rfl))⟩
 f23:=⟨Tryz.f171.name,by decide,Tryz.func171.trans (congrArg some (by kernel_rfl))⟩
 f24:=⟨Tryz.f172.name,by decide,Tryz.func172.trans (congrArg some (by kernel_rfl))⟩
 f25:=⟨Tryz.f173.name,by decide,Tryz.func173.trans (congrArg some (by kernel_rfl))⟩
 f26:=⟨Tryz.f174.name,by decide,Tryz.func174.trans (congrArg some (by kernel_rfl))⟩
 f27:=⟨Tryz.f175.name,by decide,Tryz.func175.trans (congrArg some (by kernel_rfl))⟩
 f28:=Tryz.func176.trans (congrArg some (by kernel_rfl))
 f29:=Tryz.func177.trans (congrArg some (by kernel_rfl))
 f46:=⟨Tryz.f183.name,by decide,Tryz.func183.trans (congrArg some (by kernel_rfl))⟩
 f47:=Tryz.func184.trans (congrArg some (by kernel_rfl))
 f48:=Tryz.func185.trans (congrArg some (by kernel_rfl))
 f49:=⟨Tryz.f186.name,by decide,Tryz.func186.trans (congrArg some (by kernel_rfl))⟩
 f50:=⟨Tryz.f187.name,by decide,Tryz.func187.trans (congrArg some (by kernel_rfl))⟩
 f57:=⟨Tryz.f190.name,by decide,Tryz.func190.trans (congrArg some (by kernel_rfl))⟩
 t0:=Tryz.underlying0
 a0:=Tryz.isAgg0
 z0:=Tryz.sizeOf0
 v0:=Tryz.zeroValue0
 t3:=Tryz.underlying3
 a3:=Tryz.isAgg3
 z3:=Tryz.sizeOf3
 v3:=Tryz.zeroValue3
 t4:=Tryz.underlying4
 a4:=Tryz.isAgg4
 z4:=Tryz.sizeOf4
 v4:=Tryz.zeroValue4
 t5:=Tryz.underlying5
 a5:=Tryz.isAgg5
 z5:=Tryz.sizeOf5
 v5:=Tryz.zeroValue5
 t9:=Tryz.underlying9
 a9:=Tryz.isAgg9
 z9:=Tryz.sizeOf9
 v9:=Tryz.zeroValue9
 t22:=Tryz.underlying32
 a22:=Tryz.isAgg32
 z22:=Tryz.sizeOf32
 v22:=Tryz.zeroValue32
 t25:=Tryz.underlying164
 a25:=Tryz.isAgg164
 z25:=Tryz.sizeOf164
 v25:=Tryz.zeroValue164
 t39:=Tryz.underlying67
 a39:=Tryz.isAgg67
 z39:=Tryz.sizeOf67
 v39:=Tryz.zeroValue67
 t45:=Tryz.underlying199
 a45:=Tryz.isAgg199
 z45:=Tryz.sizeOf199
 v45:=Tryz.zeroValue199
 t46:=Tryz.underlying200
 a46:=Tryz.isAgg200
 z46:=Tryz.sizeOf200
 v46:=Tryz.zeroValue200
 t50:=Tryz.underlying204
 a50:=Tryz.isAgg204
 z50:=Tryz.sizeOf204
 v50:=Tryz.zeroValue204
 t53:=Tryz.underlying207
 a53:=Tryz.isAgg207
 z53:=Tryz.sizeOf207
 v53:=Tryz.zeroValue207
 t55:=Tryz.underlying27
 a55:=Tryz.isAgg27
 z55:=Tryz.sizeOf27
 v55:=Tryz.zeroValue27
 t66:=Tryz.underlying215
 a66:=Tryz.isAgg215
 z66:=Tryz.sizeOf215
 v66:=Tryz.zeroValue215
 t70:=Tryz.underlying219
 a70:=Tryz.isAgg219
 z70:=Tryz.sizeOf219
 v70:=Tryz.zeroValue219
 t76:=Tryz.underlying222
 a76:=Tryz.isAgg222
 z76:=Tryz.sizeOf222
 v76:=Tryz.zeroValue222
 t77:=Tryz.underlying223
 a77:=Tryz.isAgg223
 z77:=Tryz.sizeOf223
 v77:=Tryz.zeroValue223 }
end Go.Proofs
namespace Go.Maps
end Go.Maps
namespace Go.AX.Q19
open Go Go.AX Go.Proofs Go.Maps Go.Sort Go.Shelf Go.RowKit
theorem NA {wl:WL}{X:Type}{f:X->D}{cmp:X->X->Option Int}{g:Nat}(eg :∀args w,(callFunc g args).run Tryz.prog w=.ok (.enter g args) w)(hcmp :∀{a b r},cmp a b=some r->Cj wl.low Tryz.prog g [.d (f a),.d (f b)] [] (.d (D.i r)) []){l r:List X}(h:FO cmp l=some r)(hagg :∀x,(f x).isAgg=true:=by exact fun _=>rfl):Cj wl Tryz.prog 120 [.own 0 (List.map f l).length,.fn g []] [.row 88 3 (List.map f l) .no] (.tup []) [.row 88 3 (List.map f r) .no]:=
 We Tryz.l120 (ak Tryz.func120 (by kernel_rfl) (by kernel_rfl)) Tryz.isAgg88 Tryz.sizeOf88 eg hagg hcmp h
end Go.AX.Q19
end
section
namespace Go.AX.Q19
open Go Go.AX Go.Proofs
variable {wl:Prop}
theorem FQ {a0:List UInt8}{a1:List Int}{r:(List UInt8)}(h:CS a0 a1=some r):yC wl 158 [AV.own 0 (List.map D.u8 a0).length,AV.d (D.l 1 D.i a1)] [.row 5 1 (List.map D.u8 a0) .no] (AV.own 0 (List.map D.u8 r).length) [.row 5 1 (List.map D.u8 r) .no]:=by
 refine oK Tryz.f158 ⟨rfl,?_⟩;unfold CS at h;refine⟨a1.length,X10 _,?_⟩;revert h;refine AG (fun v1=>⟨yO 0 D.u8 v1::dd 28 ([]),yR 5 1 D.u8 v1::nn 29 ([])⟩) ?_ ?_
 ·intro k2 h;revert h;refine Ag 7 1 D.i rfl (fun i3 v4=>⟨yO 0 D.u8 v4::dd 6 (y6 a1::yi (a1.length:Int)::yi (i3:Int)::dd 19 ([])),yR 5 1 D.u8 v4::nn 29 ([])⟩) ?_ ?_ ?_
  ·exact wk
  ·rintro v4 K5 h;(conv=>whnf);refine .go ?_;(conv=>whnf);refine BL DL ?_;exact AB wk h
  rintro next6 i3 x7 v4 K5 hii3 hxi3 hwi3 h hK8;(conv=>whnf);refine .go ?_;(conv=>whnf);refine BC (CX hii3) ?_;(conv=>whnf);refine .go ?_;refine⟨BB (f:=D.i) hii3,D.i x7,hxi3,rfl,?_⟩;refine⟨by decide,_,rfl,?_⟩;refine⟨_,Af _,?_⟩;refine⟨by decide,_,rfl,?_⟩;refine⟨_,Af _,?_⟩;refine⟨by decide,_,rfl,?_⟩;refine⟨_,Af _,?_⟩;refine⟨_,Af _,?_⟩;refine⟨rfl,?_⟩;obtain⟨v9,g10,h⟩:=AA h;refine⟨rfl,AZ (f:=D.u8) (g:=D.u8) g10,_,Aa (f:=D.u8) g10,?_⟩;refine⟨_,hwi3,?_⟩;exact hK8 _ _ wk h
 rintro v1 h;(conv=>whnf);refine .inl ?_;cases h;exact⟨rfl,rfl⟩
theorem G9 {a0:List JAE}{r:(List UInt8)}(h:BH a0=some r):yC wl 157 [AV.d (D.l 2 JAE.toD a0)] [] (.d (D.l 1 D.u8 r)) []:=by
 refine oK Tryz.f157 ⟨rfl,?_⟩;unfold BH at h;refine⟨a0.length,X10 _,?_⟩;revert h;refine AG (fun v1=>⟨X::X::X::yO 3 D.u8 v1::dd 24 ([]),N::N::N::yR 5 1 D.u8 v1::nn 24 ([])⟩) ?_ ?_
 ·intro k2 h;revert h;refine Ag 7 2 JAE.toD rfl (fun i3 v4=>⟨X::X::X::yO 3 D.u8 v4::X::X::X::y0 a0::yi (a0.length:Int)::yi (i3:Int)::dd 18 ([]),N::N::N::yR 5 1 D.u8 v4::nn 24 ([])⟩) ?_ ?_ ?_
  ·exact wk
  ·rintro v4 K5 h;(conv=>whnf);refine .go ?_;(conv=>whnf);refine BL DL ?_;exact AB wk h
  rintro next6 i3 x7 v4 K5 hii3 hxi3 hwi3 h hK8;(conv=>whnf);refine .go ?_;(conv=>whnf);refine BC (CX hii3) ?_;(conv=>whnf);refine .go ?_;refine⟨BB (f:=JAE.toD) hii3,JAE.toD x7,hxi3,rfl,?_⟩;revert h;refine AG (fun v9=>⟨X::X::X::yO 3 D.u8 v4::X::yr 5 0::yv v9::y0 a0::yi (a0.length:Int)::yi (i3:Int)::dd 18 ([]),N::N::N::yR 5 1 D.u8 v4::N::yB (JAE.av x7)::nn 22 ([])⟩) ?_ ?_
  ·intro k10 h;exact sJ h (fun h=>AB wk h) fun h=>AB wk h
  rintro v9 h;(conv=>whnf);refine .inl (dO ?_);refine⟨x7.ASNs.length,X10 _,?_⟩;refine⟨_,Af _,?_⟩;refine⟨rfl,?_⟩;obtain⟨v11,g12,h⟩:=AA h;refine⟨rfl,AZ (f:=D.u8) (g:=D.u8) g12,_,Aa (f:=D.u8) g12,?_⟩;obtain⟨v13,g14,h⟩:=AA h;refine⟨_,_,FQ g14,.inl rfl,?_⟩;(conv=>whnf);refine cO ?_;refine⟨_,hwi3,?_⟩;exact hK8 _ _ wk h
 rintro v1 h;(conv=>whnf);refine .inl ?_;(conv=>whnf);refine .inl ?_;refine⟨rfl,?_⟩;cases h;exact⟨rfl,rfl⟩
theorem HS {a0:List JAB}{r:(List UInt8)}(h:BN a0=some r):yC wl 159 [AV.d (D.l 2 JAB.toD a0)] [] (.d (D.l 1 D.u8 r)) []:=by
 refine oK Tryz.f159 ⟨rfl,?_⟩;unfold BN at h;refine⟨a0.length,X10 _,?_⟩;revert h;refine AG (fun v1=>⟨X::X::X::yO 3 D.u8 v1::dd 19 ([]),N::N::N::yR 5 1 D.u8 v1::nn 19 ([])⟩) ?_ ?_
 ·intro k2 h;revert h;refine Ag 6 2 JAB.toD rfl (fun i3 v4=>⟨X::X::X::yO 3 D.u8 v4::X::X::y1 a0::yi (a0.length:Int)::yi (i3:Int)::dd 14 ([]),N::N::N::yR 5 1 D.u8 v4::nn 19 ([])⟩) ?_ ?_ ?_
  ·exact wk
  ·rintro v4 K5 h;(conv=>whnf);refine .go ?_;(conv=>whnf);refine BL DL ?_;exact AB wk h
  rintro next6 i3 x7 v4 K5 hii3 hxi3 hwi3 h hK8;(conv=>whnf);refine .go ?_;(conv=>whnf);refine BC (CX hii3) ?_;(conv=>whnf);refine .go ?_;refine⟨BB (f:=JAB.toD) hii3,JAB.toD x7,hxi3,rfl,?_⟩;refine⟨by decide,_,rfl,?_⟩;refine⟨_,rfl,?_⟩;refine⟨rfl,?_⟩;obtain⟨v9,g10,h⟩:=AA h;refine⟨_,_,some [],FQ g10,?_⟩;refine⟨_,hwi3,?_⟩;exact hK8 _ _ wk h
 rintro v1 h;(conv=>whnf);refine .inl ?_;(conv=>whnf);refine .inl ?_;refine⟨rfl,?_⟩;cases h;exact⟨rfl,rfl⟩
theorem Ju {a0:List JAF}{r:(List UInt8)}(h:C9 a0=some r):yC wl 160 [AV.d (D.l 3 JAF.toD a0)] [] (.d (D.l 1 D.u8 r)) []:=by
 refine oK Tryz.f160 ⟨rfl,?_⟩;unfold C9 at h;refine⟨a0.length,X10 _,?_⟩;revert h;refine AG (fun v1=>⟨X::X::X::yO 3 D.u8 v1::dd 19 ([]),N::N::N::yR 5 1 D.u8 v1::nn 19 ([])⟩) ?_ ?_
 ·intro k2 h;revert h;refine Ag 6 3 JAF.toD rfl (fun i3 v4=>⟨X::X::X::yO 3 D.u8 v4::X::X::y2 a0::yi (a0.length:Int)::yi (i3:Int)::dd 14 ([]),N::N::N::yR 5 1 D.u8 v4::nn 19 ([])⟩) ?_ ?_ ?_
  ·exact wk
  ·rintro v4 K5 h;(conv=>whnf);refine .go ?_;(conv=>whnf);refine BL DL ?_;exact AB wk h
  rintro next6 i3 x7 v4 K5 hii3 hxi3 hwi3 h hK8;(conv=>whnf);refine .go ?_;(conv=>whnf);refine BC (CX hii3) ?_;(conv=>whnf);refine .go ?_;refine⟨BB (f:=JAF.toD) hii3,JAF.toD x7,hxi3,rfl,?_⟩;refine⟨rfl,?_⟩;obtain⟨v9,g10,h⟩:=AA h;refine⟨_,_,some [],FQ g10,?_⟩;refine⟨_,hwi3,?_⟩;exact hK8 _ _ wk h
 rintro v1 h;(conv=>whnf);refine .inl ?_;(conv=>whnf);refine .inl ?_;refine⟨rfl,?_⟩;cases h;exact⟨rfl,rfl⟩
theorem JP {a0:JAA}{a1:JAA}{r:Int}(h:CC a0 a1=some r):yC wl 161 [AV.d (JAA.toD a0),AV.d (JAA.toD a1)] [] (.d (D.i r)) []:=by
 refine oK Tryz.f161 ⟨rfl,?_⟩;unfold CC at h;obtain⟨v1,g2,h⟩:=AA h;refine⟨_,_,some [],BS g2,?_⟩;cases h;exact⟨rfl,rfl⟩
theorem EM {a1:List Int}{r:(List UInt8)}(h:A2 a1=some r):yC wl 158 [.d (D.nil 1),AV.d (D.l 1 D.i a1)] [] (.d (D.l 1 D.u8 r)) []:=by
 refine oK Tryz.f158 ⟨rfl,?_⟩;unfold A2 at h;refine⟨a1.length,X10 _,?_⟩;revert h;refine AG (fun v1=>⟨yO 26 D.u8 v1::dd 28 ([]),nn 26 (yR 5 1 D.u8 v1::N::N::[])⟩) ?_ ?_
 ·intro k2 h;revert h;refine Ag 7 1 D.i rfl (fun i3 v4=>⟨yO 26 D.u8 v4::dd 6 (y6 a1::yi (a1.length:Int)::yi (i3:Int)::dd 19 ([])),nn 26 (yR 5 1 D.u8 v4::N::N::[])⟩) ?_ ?_ ?_
  ·exact wk
  ·rintro v4 K5 h;(conv=>whnf);refine .go ?_;(conv=>whnf);refine BL DL ?_;exact AB wk h
  rintro next6 i3 x7 v4 K5 hii3 hxi3 hwi3 h hK8;(conv=>whnf);refine .go ?_;(conv=>whnf);refine BC (CX hii3) ?_;(conv=>whnf);refine .go ?_;refine⟨BB (f:=D.i) hii3,D.i x7,hxi3,rfl,?_⟩;refine⟨by decide,_,rfl,?_⟩;refine⟨_,Af _,?_⟩;refine⟨by decide,_,rfl,?_⟩;refine⟨_,Af _,?_⟩;refine⟨by decide,_,rfl,?_⟩;refine⟨_,Af _,?_⟩;refine⟨_,Af _,?_⟩;refine⟨rfl,?_⟩;obtain⟨v9,g10,h⟩:=AA h;refine⟨rfl,AZ (f:=D.u8) (g:=D.u8) g10,_,Aa (f:=D.u8) g10,?_⟩;refine⟨_,hwi3,?_⟩;exact hK8 _ _ wk h
 rintro v1 h;(conv=>whnf);refine .inl ?_;(conv=>whnf);refine .inl ?_;refine⟨rfl,?_⟩;cases h;exact⟨rfl,rfl⟩
theorem MP {a0:JAA}{a1:JAA}{r:Int}(h:EZ a0 a1=some r):yC wl 136 [AV.d (JAA.toD a0),AV.d (JAA.toD a1)] [] (.d (D.i r)) []:=by
 refine oK Tryz.f136 ⟨rfl,?_⟩;unfold EZ at h;obtain⟨v1,g2,h⟩:=AA h;refine⟨_,_,some [],BS g2,?_⟩;cases h;exact⟨rfl,rfl⟩
theorem GN {a1:List JAD}{a2:Bool}{r:(List UInt8)}(h:DU a1 a2=some r):yC wl 96 [.d (D.nil 1),AV.d (D.l 4 JAD.toD a1),AV.d (D.b a2)] [] (.d (D.l 1 D.u8 r)) []:=by
 refine oK Tryz.f96 ⟨rfl,?_⟩;unfold DU at h;refine⟨a1.length,X10 _,?_⟩;revert h;refine AG (fun v1=>⟨yO 25 D.u8 v1::dd 36 ([]),nn 25 (yR 5 1 D.u8 v1::nn 11 ([]))⟩) ?_ ?_
 ·intro k2 h;revert h;refine Ag 9 4 JAD.toD rfl (fun i3 v4=>⟨yO 25 D.u8 v4::X::yb a2::dd 6 (y5 a1::yi (a1.length:Int)::yi (i3:Int)::dd 25 ([])),nn 25 (yR 5 1 D.u8 v4::nn 11 ([]))⟩) ?_ ?_ ?_
  ·exact wk
  ·rintro v4 K5 h;(conv=>whnf);refine .go ?_;(conv=>whnf);refine BL DL ?_;exact AB wk h
  rintro next6 i3 x7 v4 K5 hii3 hxi3 hwi3 h hK8;(conv=>whnf);refine .go ?_;(conv=>whnf);refine BC (CX hii3) ?_;(conv=>whnf);refine .go ?_;refine⟨BB (f:=JAD.toD) hii3,JAD.toD x7,hxi3,rfl,?_⟩;revert h;refine AG (fun v9=>⟨yO 25 D.u8 v9::X::yb a2::dd 6 (y5 a1::yi (a1.length:Int)::yi (i3:Int)::dd 25 ([])),nn 25 (yR 5 1 D.u8 v9::nn 11 ([]))⟩) ?_ ?_
  ·intro k10 h;refine sJ h (fun h=>?_) fun h=>AB wk h;(conv=>whnf);refine .inl (dO ?_);refine⟨_,Af _,?_⟩;refine⟨rfl,?_⟩;obtain⟨v11,g12,h⟩:=AA h;refine⟨rfl,AZ (f:=D.u8) (g:=D.u8) g12,_,Aa (f:=D.u8) g12,?_⟩;obtain⟨v13,g14,h⟩:=AA h;refine⟨_,_,Ed g14,.inl rfl,?_⟩;refine⟨_,rfl,?_⟩;refine⟨by decide,_,rfl,?_⟩;obtain⟨v15,g16,h⟩:=AA h;refine⟨EX (f:=D.u8) g16,_,EW (f:=D.u8) g16,?_⟩;obtain⟨v17,g18,h⟩:=AA h;refine⟨rfl,AZ (f:=D.u8) (g:=D.u8) g18,_,Aa (f:=D.u8) g18,?_⟩;(conv=>whnf);refine cO ?_;exact AB wk h
  rintro v9 h;refine⟨_,hwi3,?_⟩;exact hK8 _ _ wk h
 rintro v1 h;(conv=>whnf);refine .inl ?_;(conv=>whnf);refine .inl ?_;refine⟨rfl,?_⟩;cases h;exact⟨rfl,rfl⟩
theorem N4 {a0:JAG}{r:(List JAA)}(h:Fj a0=some r):yC wl 95 [AV.d (JAG.toD a0)] [] (.d (D.l 3 JAA.toD r)) []:=by
 refine okx 131 Tryz.f95 (by kernel_rfl) (by kernel_rfl) ⟨rfl,?_⟩;unfold Fj at h;revert h;refine AG (fun (v1,v2)=>⟨X::yr 1 0::dd 8 (AV.tup [yO 54 JAA.toD v2,yi v1]::dd 44 ([])),N::yB (JAG.av a0)::nn 52 (yR 88 3 JAA.toD v2::nn 131 ([]))⟩) ?_ ?_
 ·intro k3 h;(conv=>whnf);refine inl Tryz.f134 55 (by kernel_rfl) (by kernel_rfl) ⟨rfl,?_⟩;obtain⟨v4,g5,h⟩:=AA h;refine⟨_,_,some [],Gx g5,?_⟩;(conv=>whnf);refine .go ?_;refine sJ h (fun h=>AB wk h) fun h=>?_;refine⟨_,Af _,?_⟩;revert h;refine AG (fun v6=>⟨X::yr 56 0::X::X::yr 59 0::AV.fn 156 [yr 59 0]::dd 14 (AV.tup []::dd 93 ([])),N::yB (JAG.av a0)::some (OB.row 88 3 (List.map JAA.toD []) .no)::nn 53 (yB (JAC.av a0.JAC)::N::N::yB [yO 168 JAA.toD v6]::nn 108 (yR 88 3 JAA.toD v6::nn 17 ([])))⟩) ?_ ?_
  ·intro k7 h;(conv=>whnf);refine inl Tryz.f156 169 (by kernel_rfl) (by kernel_rfl) ⟨rfl,?_⟩;revert h;refine AG (fun v8=>⟨dd 17 ([]),N::yB (JAG.av a0)::some (OB.row 88 3 (List.map JAA.toD []) .no)::nn 53 (yB (JAC.av a0.JAC)::some (OB.row 88 3 (List.map JAA.toD []) .no)::N::yB [yO 185 JAA.toD v8]::nn 14 (some (OB.row 5 1 (List.map D.u8 ([(Ah a0.JAC.Origin)]:List UInt8)) .yes)::nn 110 (yR 88 3 JAA.toD v8::[])))⟩) ?_ ?_
   ·intro k9 h;refine sJ h (fun h=>?_) fun h=>AB wk h;obtain⟨v10,g11,h⟩:=AA h;refine⟨_,B8 (ek:=D.i) (ev:=D.i) (l:=Ba) (k:=1) Bd,D.i v10,FH (z:=0) rfl g11,_,rfl,?_⟩;(conv=>whnf);refine .inl ?_;refine⟨rfl,?_⟩;refine⟨rfl,?_⟩;obtain⟨_,g12,h⟩:=AA h;refine⟨Ci (g:=JAA.toD) g12,?_⟩;exact AB wk h
   rintro v8 h;exact AB (.swap 185 168 rfl rfl rfl wk) h
  rintro v6 h;revert h;refine AG (fun v13=>⟨X::yr 56 0::X::X::yr 59 0::AV.fn 156 [yr 59 0]::dd 108 ([]),N::yB (JAG.av a0)::some (OB.row 88 3 (List.map JAA.toD []) .no)::nn 53 (yB (JAC.av a0.JAC)::N::N::yB [yO 168 JAA.toD v13]::nn 108 (yR 88 3 JAA.toD v13::nn 17 ([])))⟩) ?_ ?_
  ·intro k14 h;(conv=>whnf);refine .inr (tOB (by kernel_rfl) ?_);refine sJ h ?_ ?_<;>intro h
   ·obtain⟨v15,g16,h⟩:=AA h;refine⟨_,_,G9 g16,.inl rfl,?_⟩;(conv=>whnf);refine cO ?_;revert h;refine AG (fun v17=>⟨X::yr 56 0::X::X::yr 59 0::AV.fn 156 [yr 59 0]::dd 28 (AV.tup []::dd 79 ([])),N::yB (JAG.av a0)::some (OB.row 88 3 (List.map JAA.toD []) .no)::nn 53 (yB (JAC.av a0.JAC)::N::N::yB [yO 168 JAA.toD v17]::nn 108 (yR 88 3 JAA.toD v17::nn 17 ([])))⟩) ?_ ?_
    ·intro k18 h;(conv=>whnf);refine inl Tryz.f156 169 (by kernel_rfl) (by kernel_rfl) ⟨rfl,?_⟩;(conv=>whnf);refine .go ?_;obtain⟨v19,g20,h⟩:=AA h;refine⟨_,B8 (ek:=D.i) (ev:=D.i) (l:=Ba) (k:=2) Bd,D.i v19,FH (z:=0) rfl g20,_,rfl,?_⟩;refine⟨rfl,?_⟩;obtain⟨v21,g22,h⟩:=AA h;refine⟨rfl,AZ (f:=JAA.toD) (g:=JAA.toD) g22,_,Aa (f:=JAA.toD) g22,?_⟩;exact AB wk h
    rintro v17 h;exact AB wk h
   refine⟨a0.JAC.Path.length,X10 _,?_⟩;obtain⟨v23,g24,h⟩:=AA h;refine⟨_,_,G9 g24,.inl rfl,?_⟩;(conv=>whnf);refine cO ?_;revert h;refine AG (fun v25=>⟨X::yr 56 0::X::X::yr 59 0::AV.fn 156 [yr 59 0]::dd 28 (AV.tup []::dd 79 ([])),N::yB (JAG.av a0)::some (OB.row 88 3 (List.map JAA.toD []) .no)::nn 53 (yB (JAC.av a0.JAC)::N::N::yB [yO 168 JAA.toD v25]::nn 108 (yR 88 3 JAA.toD v25::nn 17 ([])))⟩) ?_ ?_
   ·intro k26 h;(conv=>whnf);refine inl Tryz.f156 169 (by kernel_rfl) (by kernel_rfl) ⟨rfl,?_⟩;revert h;refine AG (fun v27=>⟨dd 17 ([]),N::yB (JAG.av a0)::some (OB.row 88 3 (List.map JAA.toD []) .no)::nn 53 (yB (JAC.av a0.JAC)::N::N::yB [yO 168 JAA.toD v27]::nn 108 (yR 88 3 JAA.toD v27::nn 17 ([])))⟩) ?_ ?_
    ·intro k28 h;refine sJ h (fun h=>?_) fun h=>AB wk h;obtain⟨v29,g30,h⟩:=AA h;refine⟨_,B8 (ek:=D.i) (ev:=D.i) (l:=Ba) (k:=2) Bd,D.i v29,FH (z:=0) rfl g30,_,rfl,?_⟩;refine⟨rfl,?_⟩;obtain⟨v31,g32,h⟩:=AA h;refine⟨rfl,AZ (f:=JAA.toD) (g:=JAA.toD) g32,_,Aa (f:=JAA.toD) g32,?_⟩;exact AB wk h
    rintro v27 h;exact AB wk h
   rintro v25 h;exact AB wk h
  rintro v13 h;revert h;refine AG (fun v33=>⟨X::yr 56 0::X::X::yr 59 0::AV.fn 156 [yr 59 0]::dd 108 ([]),N::yB (JAG.av a0)::some (OB.row 88 3 (List.map JAA.toD []) .no)::nn 53 (yB (JAC.av a0.JAC)::N::N::yB [yO 168 JAA.toD v33]::nn 108 (yR 88 3 JAA.toD v33::nn 17 ([])))⟩) ?_ ?_
  ·intro k34 h;(conv=>whnf);refine .inr (tOB (by kernel_rfl) ?_);refine sJ h ?_ ?_<;>intro h
   ·obtain⟨v35,g36,h⟩:=AA h;refine⟨_,_,Ed g36,.inl rfl,?_⟩;(conv=>whnf);refine cO ?_;revert h;refine AG (fun v37=>⟨X::yr 56 0::X::X::yr 59 0::AV.fn 156 [yr 59 0]::dd 43 (AV.tup []::dd 64 ([])),N::yB (JAG.av a0)::some (OB.row 88 3 (List.map JAA.toD []) .no)::nn 53 (yB (JAC.av a0.JAC)::N::N::yB [yO 168 JAA.toD v37]::nn 108 (yR 88 3 JAA.toD v37::nn 17 ([])))⟩) ?_ ?_
    ·intro k38 h;(conv=>whnf);refine inl Tryz.f156 169 (by kernel_rfl) (by kernel_rfl) ⟨rfl,?_⟩;revert h;refine AG (fun v39=>⟨dd 17 ([]),N::yB (JAG.av a0)::some (OB.row 88 3 (List.map JAA.toD []) .no)::nn 53 (yB (JAC.av a0.JAC)::N::N::yB [yO 168 JAA.toD v39]::nn 108 (yR 88 3 JAA.toD v39::nn 17 ([])))⟩) ?_ ?_
     ·intro k40 h;refine sJ h (fun h=>?_) fun h=>AB wk h;obtain⟨v41,g42,h⟩:=AA h;refine⟨_,B8 (ek:=D.i) (ev:=D.i) (l:=Ba) (k:=3) Bd,D.i v41,FH (z:=0) rfl g42,_,rfl,?_⟩;refine⟨rfl,?_⟩;obtain⟨v43,g44,h⟩:=AA h;refine⟨rfl,AZ (f:=JAA.toD) (g:=JAA.toD) g44,_,Aa (f:=JAA.toD) g44,?_⟩;exact AB wk h
     rintro v39 h;exact AB wk h
    rintro v37 h;exact AB wk h
   obtain⟨v45,g46,h⟩:=AA h;refine⟨_,_,Ed g46,.inl rfl,?_⟩;(conv=>whnf);refine cO ?_;revert h;refine AG (fun _=>⟨X::yr 56 0::X::X::yr 59 0::AV.fn 156 [yr 59 0]::dd 43 (AV.tup []::dd 64 ([])),N::yB (JAG.av a0)::some (OB.row 88 3 (List.map JAA.toD []) .no)::nn 53 (yB (JAC.av a0.JAC)::N::N::yB [yO 168 JAA.toD v13]::nn 108 (yR 88 3 JAA.toD v13::nn 17 ([])))⟩) ?_ ?_
   ·intro k47 h;(conv=>whnf);refine inl Tryz.f156 169 (by kernel_rfl) (by kernel_rfl) ⟨rfl,?_⟩;(conv=>whnf);refine .go ?_;exact AB wk h
   rintro _ h;exact AB wk h
  rintro v33 h;(conv=>whnf);refine .inr (tOB (by kernel_rfl) ?_);refine⟨rfl,?_⟩;obtain⟨v48,g49,h⟩:=AA h;refine⟨_,_,EM g49,.inl rfl,?_⟩;(conv=>whnf);refine cO ?_;revert h;refine AG (fun v50=>⟨X::yr 56 0::X::X::yr 59 0::AV.fn 156 [yr 59 0]::dd 52 (AV.tup []::dd 55 ([])),N::yB (JAG.av a0)::some (OB.row 88 3 (List.map JAA.toD []) .no)::nn 53 (yB (JAC.av a0.JAC)::N::N::yB [yO 168 JAA.toD v50]::nn 108 (yR 88 3 JAA.toD v50::nn 17 ([])))⟩) ?_ ?_
  ·intro k51 h;(conv=>whnf);refine inl Tryz.f156 169 (by kernel_rfl) (by kernel_rfl) ⟨rfl,?_⟩;revert h;refine AG (fun v52=>⟨dd 17 ([]),N::yB (JAG.av a0)::some (OB.row 88 3 (List.map JAA.toD []) .no)::nn 53 (yB (JAC.av a0.JAC)::N::N::yB [yO 168 JAA.toD v52]::nn 51 (some (OB.row 3 1 (List.map D.i ([a0.JAC.MED]:List Int)) .yes)::nn 56 (yR 88 3 JAA.toD v52::nn 17 ([]))))⟩) ?_ ?_
   ·intro k53 h;refine sJ h (fun h=>?_) fun h=>AB wk h;obtain⟨v54,g55,h⟩:=AA h;refine⟨_,B8 (ek:=D.i) (ev:=D.i) (l:=Ba) (k:=4) Bd,D.i v54,FH (z:=0) rfl g55,_,rfl,?_⟩;refine⟨rfl,?_⟩;obtain⟨v56,g57,h⟩:=AA h;refine⟨rfl,AZ (f:=JAA.toD) (g:=JAA.toD) g57,_,Aa (f:=JAA.toD) g57,?_⟩;exact AB wk h
   rintro v52 h;exact AB wk h
  rintro v50 h;(conv=>whnf);refine .inr (tOB (by kernel_rfl) ?_);refine⟨rfl,?_⟩;obtain⟨v58,g59,h⟩:=AA h;refine⟨_,_,EM g59,.inl rfl,?_⟩;(conv=>whnf);refine cO ?_;revert h;refine AG (fun v60=>⟨X::yr 56 0::X::X::yr 59 0::AV.fn 156 [yr 59 0]::dd 61 (AV.tup []::dd 46 ([])),N::yB (JAG.av a0)::some (OB.row 88 3 (List.map JAA.toD []) .no)::nn 53 (yB (JAC.av a0.JAC)::N::N::yB [yO 168 JAA.toD v60]::nn 108 (yR 88 3 JAA.toD v60::nn 17 ([])))⟩) ?_ ?_
  ·intro k61 h;(conv=>whnf);refine inl Tryz.f156 169 (by kernel_rfl) (by kernel_rfl) ⟨rfl,?_⟩;revert h;refine AG (fun v62=>⟨dd 17 ([]),N::yB (JAG.av a0)::some (OB.row 88 3 (List.map JAA.toD []) .no)::nn 53 (yB (JAC.av a0.JAC)::N::N::yB [yO 168 JAA.toD v62]::nn 60 (some (OB.row 3 1 (List.map D.i ([a0.JAC.Pref]:List Int)) .yes)::nn 47 (yR 88 3 JAA.toD v62::nn 17 ([]))))⟩) ?_ ?_
   ·intro k63 h;refine sJ h (fun h=>?_) fun h=>AB wk h;obtain⟨v64,g65,h⟩:=AA h;refine⟨_,B8 (ek:=D.i) (ev:=D.i) (l:=Ba) (k:=5) Bd,D.i v64,FH (z:=0) rfl g65,_,rfl,?_⟩;refine⟨rfl,?_⟩;obtain⟨v66,g67,h⟩:=AA h;refine⟨rfl,AZ (f:=JAA.toD) (g:=JAA.toD) g67,_,Aa (f:=JAA.toD) g67,?_⟩;exact AB wk h
   rintro v62 h;exact AB wk h
  rintro v60 h;(conv=>whnf);refine .inr (tOB (by kernel_rfl) ?_);refine⟨a0.JAC.Communities.length,X10 _,?_⟩;obtain⟨v68,g69,h⟩:=AA h;refine⟨_,_,HS g69,.inl rfl,?_⟩;(conv=>whnf);refine cO ?_;revert h;refine AG (fun v70=>⟨X::yr 56 0::X::X::yr 59 0::AV.fn 156 [yr 59 0]::dd 70 (AV.tup []::dd 37 ([])),N::yB (JAG.av a0)::some (OB.row 88 3 (List.map JAA.toD []) .no)::nn 53 (yB (JAC.av a0.JAC)::N::N::yB [yO 168 JAA.toD v70]::nn 108 (yR 88 3 JAA.toD v70::nn 17 ([])))⟩) ?_ ?_
  ·intro k71 h;(conv=>whnf);refine inl Tryz.f156 169 (by kernel_rfl) (by kernel_rfl) ⟨rfl,?_⟩;revert h;refine AG (fun v72=>⟨dd 17 ([]),N::yB (JAG.av a0)::some (OB.row 88 3 (List.map JAA.toD []) .no)::nn 53 (yB (JAC.av a0.JAC)::N::N::yB [yO 168 JAA.toD v72]::nn 108 (yR 88 3 JAA.toD v72::nn 17 ([])))⟩) ?_ ?_
   ·intro k73 h;refine sJ h (fun h=>?_) fun h=>AB wk h;obtain⟨v74,g75,h⟩:=AA h;refine⟨_,B8 (ek:=D.i) (ev:=D.i) (l:=Ba) (k:=8) Bd,D.i v74,FH (z:=0) rfl g75,_,rfl,?_⟩;refine⟨rfl,?_⟩;obtain⟨v76,g77,h⟩:=AA h;refine⟨rfl,AZ (f:=JAA.toD) (g:=JAA.toD) g77,_,Aa (f:=JAA.toD) g77,?_⟩;exact AB wk h
   rintro v72 h;exact AB wk h
  rintro v70 h;(conv=>whnf);refine .inr (tOB (by kernel_rfl) ?_);refine⟨a0.JAC.JAF.length,X10 _,?_⟩;obtain⟨v78,g79,h⟩:=AA h;refine⟨_,_,Ju g79,.inl rfl,?_⟩;(conv=>whnf);refine cO ?_;revert h;refine AG (fun v80=>⟨X::yr 56 0::X::X::yr 59 0::AV.fn 156 [yr 59 0]::dd 79 (AV.tup []::dd 28 ([])),N::yB (JAG.av a0)::some (OB.row 88 3 (List.map JAA.toD []) .no)::nn 53 (yB (JAC.av a0.JAC)::N::N::yB [yO 168 JAA.toD v80]::nn 108 (yR 88 3 JAA.toD v80::nn 17 ([])))⟩) ?_ ?_
  ·intro k81 h;(conv=>whnf);refine inl Tryz.f156 169 (by kernel_rfl) (by kernel_rfl) ⟨rfl,?_⟩;revert h;refine AG (fun v82=>⟨dd 17 ([]),N::yB (JAG.av a0)::some (OB.row 88 3 (List.map JAA.toD []) .no)::nn 53 (yB (JAC.av a0.JAC)::N::N::yB [yO 168 JAA.toD v82]::nn 108 (yR 88 3 JAA.toD v82::nn 17 ([])))⟩) ?_ ?_
   ·intro k83 h;refine sJ h (fun h=>?_) fun h=>AB wk h;obtain⟨v84,g85,h⟩:=AA h;refine⟨_,B8 (ek:=D.i) (ev:=D.i) (l:=Ba) (k:=32) Bd,D.i v84,FH (z:=0) rfl g85,_,rfl,?_⟩;refine⟨rfl,?_⟩;obtain⟨v86,g87,h⟩:=AA h;refine⟨rfl,AZ (f:=JAA.toD) (g:=JAA.toD) g87,_,Aa (f:=JAA.toD) g87,?_⟩;exact AB wk h
   rintro v82 h;exact AB wk h
  rintro v80 h;(conv=>whnf);refine .inr (tOB (by kernel_rfl) ?_);refine⟨rfl,?_⟩;obtain⟨v88,g89,h⟩:=AA h;refine⟨_,_,EM g89,.inl rfl,?_⟩;(conv=>whnf);refine cO ?_;revert h;refine AG (fun v90=>⟨X::yr 56 0::X::X::yr 59 0::dd 89 (AV.tup []::dd 19 ([])),N::yB (JAG.av a0)::some (OB.row 88 3 (List.map JAA.toD []) .no)::nn 53 (yB (JAC.av a0.JAC)::N::N::yB [yO 168 JAA.toD v90]::nn 108 (yR 88 3 JAA.toD v90::nn 17 ([])))⟩) ?_ ?_
  ·intro k91 h;(conv=>whnf);refine inl Tryz.f156 169 (by kernel_rfl) (by kernel_rfl) ⟨rfl,?_⟩;revert h;refine AG (fun v92=>⟨dd 17 ([]),N::yB (JAG.av a0)::some (OB.row 88 3 (List.map JAA.toD []) .no)::nn 53 (yB (JAC.av a0.JAC)::N::N::yB [yO 168 JAA.toD v92]::nn 87 (some (OB.row 3 1 (List.map D.i ([a0.JAC.OTC]:List Int)) .yes)::nn 20 (yR 88 3 JAA.toD v92::nn 17 ([]))))⟩) ?_ ?_
   ·intro k93 h;refine sJ h (fun h=>?_) fun h=>AB wk h;obtain⟨v94,g95,h⟩:=AA h;refine⟨_,B8 (ek:=D.i) (ev:=D.i) (l:=Ba) (k:=35) Bd,D.i v94,FH (z:=0) rfl g95,_,rfl,?_⟩;refine⟨rfl,?_⟩;obtain⟨v96,g97,h⟩:=AA h;refine⟨rfl,AZ (f:=JAA.toD) (g:=JAA.toD) g97,_,Aa (f:=JAA.toD) g97,?_⟩;exact AB wk h
   rintro v92 h;exact AB wk h
  rintro v90 h;refine⟨a0.JAC.Other.length,X10 _,?_⟩;revert h;refine AG (fun v98=>⟨dd 4 (yr 59 0::dd 109 ([])),N::yB (JAG.av a0)::some (OB.row 88 3 (List.map JAA.toD []) .no)::nn 56 (yB [yO 168 JAA.toD v98]::nn 108 (yR 88 3 JAA.toD v98::nn 17 ([])))⟩) ?_ ?_
  ·intro k99 h;revert h;refine Ag 96 3 JAA.toD rfl (fun i100 v101=>⟨dd 4 (yr 59 0::dd 91 (AV.d (D.l 3 JAA.toD a0.JAC.Other)::yi (a0.JAC.Other.length:Int)::yi (i100:Int)::dd 15 ([]))),N::yB (JAG.av a0)::some (OB.row 88 3 (List.map JAA.toD []) .no)::nn 56 (yB [yO 168 JAA.toD v101]::nn 108 (yR 88 3 JAA.toD v101::nn 17 ([])))⟩) ?_ ?_ ?_
   ·exact wk
   ·rintro v101 K102 h;(conv=>whnf);refine .go ?_;(conv=>whnf);refine BL DL ?_;exact AB wk h
   rintro next103 i100 x104 v101 K102 hii100 hxi100 hwi100 h hK105;(conv=>whnf);refine .go ?_;(conv=>whnf);refine BC (CX hii100) ?_;(conv=>whnf);refine .go ?_;refine⟨BB (f:=JAA.toD) hii100,JAA.toD x104,hxi100,rfl,?_⟩;obtain⟨v106,g107,h⟩:=AA h;refine⟨_,_,some [],G4 g107,?_⟩;refine⟨rfl,?_⟩;obtain⟨v108,g109,h⟩:=AA h;refine⟨rfl,AZ (f:=JAA.toD) (g:=JAA.toD) g109,_,Aa (f:=JAA.toD) g109,?_⟩;refine⟨_,hwi100,?_⟩;exact hK105 _ _ wk h
  rintro v98 h;obtain⟨v110,g111,h⟩:=AA h;have g111l:=MG g111;refine⟨_,_,some [],NA (f:=JAA.toD) (enters_of Tryz.func161 (by kernel_rfl) rfl) (fun h=>JP h) g111,?_⟩;exact AB (.swap 168 54 rfl rfl rfl wk) h
 rintro⟨v1,v2⟩ h;revert h;refine AG (fun v112=>⟨X::yr 1 0::X::yO 54 JAA.toD v2::dd 18 (yb v112::dd 32 ([])),N::yB (JAG.av a0)::nn 52 (yR 88 3 JAA.toD v2::nn 131 ([]))⟩) ?_ ?_
 ·intro k113 h;refine⟨a0.Announce.length,X10 _,?_⟩;exact sJ h (fun h=>AB wk h) fun h=>AB wk h
 rintro v112 h;revert h;refine AG (fun v114=>⟨X::yr 1 0::X::yO 54 JAA.toD v114::dd 51 ([]),N::yB (JAG.av a0)::nn 52 (yR 88 3 JAA.toD v114::nn 131 ([]))⟩) ?_ ?_
 ·intro k115 h;refine sJ h (fun h=>?_) fun h=>AB wk h;obtain⟨v116,g117,h⟩:=AA h;refine⟨_,_,some [],Ed g117,?_⟩;obtain⟨v118,g119,h⟩:=AA h;refine⟨rfl,AZ (f:=D.u8) (g:=D.u8) g119,_,Aa (f:=D.u8) g119,?_⟩;(conv=>whnf);refine .inl (dO ?_);refine⟨rfl,?_⟩;obtain⟨v120,g121,h⟩:=AA h;refine⟨rfl,AZ (f:=D.u8) (g:=D.u8) g121,_,Aa (f:=D.u8) g121,?_⟩;obtain⟨v122,g123,h⟩:=AA h;refine⟨_,_,Ib g123,.inl rfl,?_⟩;(conv=>whnf);refine .inl ?_;refine⟨rfl,?_⟩;refine⟨rfl,?_⟩;obtain⟨v124,g125,h⟩:=AA h;refine⟨rfl,AZ (f:=JAA.toD) (g:=JAA.toD) g125,_,Aa (f:=JAA.toD) g125,?_⟩;(conv=>whnf);refine cO ?_;exact AB wk h
 rintro v114 h;obtain⟨v126,g127,h⟩:=AA h;refine⟨_,_,some [],GN g127,?_⟩;refine⟨v126.length,X10 _,?_⟩;revert h;refine AG (fun v128=>⟨X::X::X::yO 54 JAA.toD v128::dd 51 ([]),nn 54 (yR 88 3 JAA.toD v128::nn 131 ([]))⟩) ?_ ?_
 ·intro k129 h;refine sJ h (fun h=>?_) fun h=>AB wk h;obtain⟨v130,g131,h⟩:=AA h;refine⟨rfl,AZ (f:=D.u8) (g:=D.u8) g131,_,Aa (f:=D.u8) g131,?_⟩;(conv=>whnf);refine .inl ?_;refine⟨rfl,?_⟩;refine⟨rfl,?_⟩;obtain⟨v132,g133,h⟩:=AA h;refine⟨rfl,AZ (f:=JAA.toD) (g:=JAA.toD) g133,_,Aa (f:=JAA.toD) g133,?_⟩;exact AB wk h
 rintro v128 h;obtain⟨v134,g135,h⟩:=AA h;have g135l:=MG g135;refine⟨_,_,some [],NA (f:=JAA.toD) (enters_of Tryz.func136 (by kernel_rfl) rfl) (fun h=>MP h) g135,?_⟩;(conv=>whnf);refine .inl ?_;(conv=>whnf);refine .inl ?_;refine⟨(by first | rfl | (simp only[X10];omega)|(simp only[cpy,X10,X21,X11,X18,X17,X20];omega)),?_⟩;cases h;exact⟨rfl,rfl⟩
theorem KL {a1:Int}{r:(List UInt8)}(h:D8 a1=some r):yC wl 87 [.d (D.nil 1),AV.d (D.i a1)] [] (AV.own 0 (List.map D.u8 r).length) [.row 5 1 (List.map D.u8 r) .no]:=by
 refine oK Tryz.f87 ⟨rfl,?_⟩;unfold D8 at h;refine⟨by decide,_,rfl,?_⟩;refine⟨_,Af _,?_⟩;refine⟨_,Af _,?_⟩;refine⟨rfl,?_⟩;obtain⟨_,g1,h⟩:=AA h;refine⟨Ci (g:=D.u8) g1,?_⟩;(conv=>whnf);refine .inl ?_;(conv=>whnf);refine .inr ?_;cases h;exact⟨rfl,rfl⟩
theorem Gp {a0:JAG}{r:(List UInt8)×Bool}(h:Di a0=some r):yC wl 49 [AV.d (JAG.toD a0)] [] (.tup [.d (D.l 1 D.u8 r.1),.d (D.b r.2)]) []:=by
 refine oK Tryz.f49 ⟨rfl,?_⟩;unfold Di at h;obtain⟨v1,g2,h⟩:=AA h;refine⟨_,_,some [],N4 g2,?_⟩;obtain⟨⟨v3,v4⟩,g5,h⟩:=AA h;refine⟨_,_,some [],LS g5,?_⟩;obtain⟨v6,g7,h⟩:=AA h;refine⟨_,_,some [],GN g7,?_⟩;refine⟨v6.length,X10 _,?_⟩;obtain⟨v8,g9,h⟩:=AA h;refine⟨_,_,some [19],KL g9,?_⟩;obtain⟨v10,g11,h⟩:=AA h;refine⟨rfl,AZ (f:=D.u8) (g:=D.u8) g11,_,Aa (f:=D.u8) g11,?_⟩;refine⟨v3.length,X10 _,?_⟩;obtain⟨v12,g13,h⟩:=AA h;refine⟨_,_,some [],Jn g13,?_⟩;obtain⟨v14,g15,h⟩:=AA h;refine⟨rfl,AZ (f:=D.u8) (g:=D.u8) g15,_,Aa (f:=D.u8) g15,?_⟩;obtain⟨v16,g17,h⟩:=AA h;refine⟨_,_,some [],Ib g17,?_⟩;revert h;refine AG (fun v18=>⟨X::X::yO 19 D.u8 v16::yb v18::dd 36 ([]),nn 19 (yR 5 1 D.u8 v16::nn 20 ([]))⟩) ?_ ?_
 ·intro k19 h;refine sJ h (fun h=>?_) fun h=>AB wk h;refine⟨v16.length,by first | exact X10 _ | rfl | (simp only[X10];omega),?_⟩;exact AB wk h
 rintro v18 h;(conv=>whnf);refine .inl ?_;refine⟨rfl,?_⟩;cases h;exact⟨rfl,rfl⟩
theorem IX {a0:Addr}{r:Int}(h:B2 a0=some r):yC wl 100 [AV.d (Addr.toD a0)] [] (.d (D.i r)) []:=by
 refine oK Tryz.f100 ⟨rfl,?_⟩;unfold B2 at h;(conv=>whnf);refine .go ?_;refine sJ h ?_ ?_<;>intro h
 ·cases h;exact⟨rfl,rfl⟩
 cases h;exact⟨rfl,rfl⟩
theorem Nn {a0:Int}{r:UInt64×UInt64}(h:EV a0=some r):yC wl 137 [AV.d (D.i a0)] [] (.tup [.d (D.u64 r.1),.d (D.u64 r.2)]) []:=by
 refine oK Tryz.f137 ⟨rfl,?_⟩;unfold EV at h;(conv=>whnf);refine .go ?_;refine sJ h ?_ ?_<;>intro h
 ·refine⟨_,rfl,?_⟩;refine⟨_,Ae _,?_⟩;refine⟨Int.natCast_nonneg _,_,Ae _,?_⟩;refine⟨_,Ae _,?_⟩;cases h;exact⟨rfl,rfl⟩
 refine⟨_,Ae _,?_⟩;refine⟨Int.natCast_nonneg _,_,Ae _,?_⟩;refine⟨_,Ae _,?_⟩;cases h;exact⟨rfl,rfl⟩
theorem NU {a0:Addr}{a1:Int}{r:Addr}(h:Do a0 a1=some r):yC wl 101 [AV.d (Addr.toD a0),AV.d (D.i a1)] [] (.d (Addr.toD r)) []:=by
 refine oK Tryz.f101 ⟨rfl,?_⟩;unfold Do at h;obtain⟨v1,g2,h⟩:=AA h;refine⟨_,_,some [],IX g2,?_⟩;refine⟨_,rfl,?_⟩;obtain⟨⟨v3,v4⟩,g5,h⟩:=AA h;refine⟨_,_,some [],Nn g5,?_⟩;refine⟨_,Ae _,?_⟩;refine⟨_,Ae _,?_⟩;cases h;exact⟨rfl,rfl⟩
theorem NS {a0:JAD}{r:Bool}(h:FK a0=some r):yC wl 52 [AV.d (JAD.toD a0)] [] (.d (D.b r)) []:=by
 refine oK Tryz.f52 ⟨rfl,?_⟩;unfold FK at h;revert h;refine AG (fun v1=>⟨X::X::yb v1::dd 26 ([]),nn 29 ([])⟩) ?_ ?_
 ·intro k2 h;(conv=>whnf);refine .inl (dO ?_);obtain⟨v3,g4,h⟩:=AA h;refine⟨_,_,HJ g4,.inl rfl,?_⟩;refine sJ h ?_ ?_<;>intro h
  ·refine sJ h ?_ ?_<;>intro h
   ·obtain⟨v5,g6,h⟩:=AA h;refine⟨_,_,IX g6,.inl rfl,?_⟩;refine sJ h ?_ ?_<;>intro h
    ·obtain⟨v7,g8,h⟩:=AA h;refine⟨_,_,NU g8,.inl rfl,?_⟩;(conv=>whnf);refine cO ?_;exact AB wk h
    (conv=>whnf);refine cO ?_;exact AB wk h
   (conv=>whnf);refine cO ?_;exact AB wk h
  (conv=>whnf);refine cO ?_;exact AB wk h
 rintro v1 h;cases h;exact⟨rfl,rfl⟩
theorem Kx {a0:JAD}{r:Bool}(h:EH a0=some r):yC wl 51 [AV.d (JAD.toD a0)] [] (.d (D.b r)) []:=by
 refine oK Tryz.f51 ⟨rfl,?_⟩;unfold EH at h;obtain⟨v1,g2,h⟩:=AA h;refine⟨_,_,some [],NS g2,?_⟩;cases h;exact⟨rfl,rfl⟩
theorem Nh {a0:JAC}{r:Bool}(h:FC a0=some r):yC wl 103 [AV.d (JAC.toD a0)] [] (.d (D.b r)) []:=by
 refine okx 2 Tryz.f103 (by kernel_rfl) (by kernel_rfl) ⟨rfl,?_⟩;unfold FC at h;revert h;refine AG (fun _=>⟨X::yr 1 0::X::X::AV.d (D.agg [D.i (-1),D.nil 2,D.b false,D.u64 (0:UInt64),D.u64 (0:UInt64),D.i (-1),D.i (-1),D.i (-1),D.nil 2,D.nil 3,D.nil 3])::dd 51 ([]),N::yB (JAC.av a0)::nn 56 ([])⟩) ?_ ?_
 ·intro k1 h;(conv=>whnf);refine inl Tryz.f60 56 (by kernel_rfl) (by kernel_rfl) ⟨rfl,?_⟩;exact AB wk h
 rintro _ h;revert h;refine AG (fun v2=>⟨X::X::yb v2::dd 53 ([]),nn 58 ([])⟩) ?_ ?_
 ·intro k3 h;refine sJ h (fun h=>?_) fun h=>AB wk h;refine sJ h (fun h=>?_) fun h=>AB wk h;refine sJ h (fun h=>?_) fun h=>AB wk h;refine sJ h (fun h=>?_) fun h=>AB wk h;refine sJ h (fun h=>?_) fun h=>AB wk h;refine⟨a0.Path.length,X10 _,?_⟩;refine⟨a0.Communities.length,X10 _,?_⟩;refine⟨_,rfl,?_⟩;refine⟨a0.JAF.length,X10 _,?_⟩;refine⟨_,rfl,?_⟩;refine⟨a0.Other.length,X10 _,?_⟩;refine⟨_,rfl,?_⟩;exact AB wk h
 rintro v2 h;cases h;exact⟨rfl,rfl⟩
theorem Ln {a0:JAD}{a1:JAG}{r:Bool×JAG}(h:Dy a0 a1=some r):yC wl 104 [AV.d (JAD.toD a0),.ref 0 0] [.box (JAG.av a1)] (.d (D.b r.1)) [.box (JAG.av r.2)]:=by
 refine oK Tryz.f104 ⟨rfl,?_⟩;unfold Dy at h;cases h;exact⟨rfl,rfl⟩
theorem B6 {a0:List JAD}{a1c0:JAG}{r:Int×JAG}(h:Ai a0 a1c0=some r):yC wl 102 [AV.d (D.l 4 JAD.toD a0),AV.fn 104 [.ref 0 0]] [.box (JAG.av a1c0)] (.d (D.i r.1)) [.box (JAG.av r.2)]:=by
 refine oK Tryz.f102 ⟨rfl,?_⟩;unfold Ai at h;refine⟨a0.length,X10 _,?_⟩;revert h;refine AG (fun v1=>⟨dd 19 ([]),yB (JAG.av v1)::nn 19 ([])⟩) ?_ ?_
 ·intro k2 h;revert h;refine Ag 6 4 JAD.toD rfl (fun i3 v4=>⟨y5 a0::AV.fn 104 [yr 0 0]::dd 4 (y5 a0::yi (a0.length:Int)::yi (i3:Int)::dd 10 ([])),yB (JAG.av v4)::nn 19 ([])⟩) ?_ ?_ ?_
  ·exact wk
  ·rintro v4 K5 h;(conv=>whnf);refine .go ?_;(conv=>whnf);refine BL DL ?_;exact AB wk h
  rintro next6 i3 x7 v4 K5 hii3 hxi3 hwi3 h hK8;(conv=>whnf);refine .go ?_;(conv=>whnf);refine BC (CX hii3) ?_;(conv=>whnf);refine .go ?_;refine⟨BB (f:=JAD.toD) hii3,JAD.toD x7,hxi3,rfl,?_⟩;obtain⟨⟨v9,v10⟩,g11,h⟩:=AA h;refine⟨_,_,some [],Ln g11,?_⟩;(conv=>whnf);refine .go ?_;refine sJ h ?_ ?_<;>intro h
  ·cases h;exact⟨rfl,rfl⟩
  refine⟨_,hwi3,?_⟩;exact hK8 _ _ wk h
 rintro v1 h;cases h;exact⟨rfl,rfl⟩
theorem Bm {a0:List JAD}{a1c0:JAG}{r:Bool×JAG}(h:Ac a0 a1c0=some r):yC wl 53 [AV.d (D.l 4 JAD.toD a0),AV.fn 104 [.ref 0 0]] [.box (JAG.av a1c0)] (.d (D.b r.1)) [.box (JAG.av r.2)]:=by
 refine oK Tryz.f53 ⟨rfl,?_⟩;unfold Ac at h;obtain⟨⟨v1,v2⟩,g3,h⟩:=AA h;refine⟨_,_,some [],B6 g3,?_⟩;cases h;exact⟨rfl,rfl⟩
theorem OU {a0:JAG}{r:Bool}(h:F7 a0=some r):yC wl 54 [AV.d (JAG.toD a0)] [] (.d (D.b r)) []:=by
 refine oK Tryz.f54 ⟨rfl,?_⟩;unfold F7 at h;refine⟨a0.Announce.length,X10 _,?_⟩;(conv=>whnf);refine .go ?_;refine sJ h ?_ ?_<;>intro h
 ·obtain⟨v1,g2,h⟩:=AA h;refine⟨_,_,some [],Nh g2,?_⟩;cases h;exact⟨rfl,rfl⟩
 revert h;refine AG (fun v3=>⟨X::X::yb v3::dd 32 ([]),nn 35 ([])⟩) ?_ ?_
 ·intro k4 h;obtain⟨v5,g6,h⟩:=AA h;refine⟨_,_,some [],Gx g6,?_⟩;refine sJ h (fun h=>?_) fun h=>AB wk h;refine sJ h (fun h=>?_) fun h=>AB wk h;refine sJ h (fun h=>?_) fun h=>AB wk h;obtain⟨⟨v7,v8⟩,g9,h⟩:=AA h;refine⟨_,_,some [],Bm g9,?_⟩;exact AB wk h
 rintro v3 h;cases h;exact⟨rfl,rfl⟩
theorem B0 {a0:List JAD}{r:Int}(h:As a0=some r):yC wl 102 [AV.d (D.l 4 JAD.toD a0),AV.fn 51 []] [] (.d (D.i r)) []:=by
 refine oK Tryz.f102 ⟨rfl,?_⟩;unfold As at h;refine⟨a0.length,X10 _,?_⟩;revert h;refine AG (fun _=>⟨dd 19 ([]),nn 19 ([])⟩) ?_ ?_
 ·intro k1 h;revert h;refine Ag 6 4 JAD.toD rfl (fun i2 _=>⟨y5 a0::AV.fn 51 []::dd 4 (y5 a0::yi (a0.length:Int)::yi (i2:Int)::dd 10 ([])),nn 19 ([])⟩) ?_ ?_ ?_
  ·exact wk
  ·rintro _ K3 h;(conv=>whnf);refine .go ?_;(conv=>whnf);refine BL DL ?_;exact AB wk h
  rintro next4 i2 x5 _ K3 hii2 hxi2 hwi2 h hK6;(conv=>whnf);refine .go ?_;(conv=>whnf);refine BC (CX hii2) ?_;(conv=>whnf);refine .go ?_;refine⟨BB (f:=JAD.toD) hii2,JAD.toD x5,hxi2,rfl,?_⟩;obtain⟨v7,g8,h⟩:=AA h;refine⟨_,_,some [],Kx g8,?_⟩;(conv=>whnf);refine .go ?_;refine sJ h ?_ ?_<;>intro h
  ·cases h;exact⟨rfl,rfl⟩
  refine⟨_,hwi2,?_⟩;exact hK6 _ _ wk h
 rintro _ h;cases h;exact⟨rfl,rfl⟩
theorem Az {a0:List JAD}{r:Bool}(h:Ab a0=some r):yC wl 53 [AV.d (D.l 4 JAD.toD a0),AV.fn 51 []] [] (.d (D.b r)) []:=by
 refine oK Tryz.f53 ⟨rfl,?_⟩;unfold Ab at h;obtain⟨v1,g2,h⟩:=AA h;refine⟨_,_,some [],B0 g2,?_⟩;cases h;exact⟨rfl,rfl⟩
theorem Ee {a0:JAG}{r:Bool}(h:CM a0=some r):yC wl 20 [AV.d (JAG.toD a0)] [] (.d (D.b r)) []:=by
 refine oK Tryz.f20 ⟨rfl,?_⟩;unfold CM at h;revert h;refine AG (fun v1=>⟨X::yr 1 0::dd 30 (yb v1::dd 6 ([])),N::yB (JAG.av a0)::nn 37 ([])⟩) ?_ ?_
 ·intro k2 h;refine⟨a0.Withdraw.length,X10 _,?_⟩;refine sJ h (fun h=>AB wk h) fun h=>?_;refine⟨a0.Announce.length,X10 _,?_⟩;refine sJ h (fun h=>AB wk h) fun h=>?_;obtain⟨v3,g4,h⟩:=AA h;refine⟨_,_,some [],Az g4,?_⟩;refine sJ h (fun h=>AB wk h) fun h=>?_;obtain⟨v5,g6,h⟩:=AA h;refine⟨_,_,some [],Az g6,?_⟩;refine sJ h (fun h=>AB wk h) fun h=>?_;obtain⟨v7,g8,h⟩:=AA h;refine⟨_,_,some [],OU g8,?_⟩;exact AB wk h
 rintro v1 h;(conv=>whnf);refine .go ?_;refine sJ h ?_ ?_<;>intro h
 ·cases h;exact⟨rfl,rfl⟩
 obtain⟨⟨v9,v10⟩,g11,h⟩:=AA h;refine⟨_,_,some [],Gp g11,?_⟩;cases h;exact⟨rfl,rfl⟩
theorem Hw {a0:JAG}{r:(List UInt8)×Int}(h:DN a0=some r):yC wl 18 [AV.d (JAG.toD a0)] [] (.tup [.d (D.l 1 D.u8 r.1),.d (D.i r.2)]) []:=by
 refine oK Tryz.f18 ⟨rfl,?_⟩;unfold DN at h;obtain⟨v1,g2,h⟩:=AA h;refine⟨_,_,some [],Ee g2,?_⟩;(conv=>whnf);refine .go ?_;refine sJ h ?_ ?_<;>intro h
 ·cases h;exact⟨rfl,rfl⟩
 obtain⟨⟨v3,v4⟩,g5,h⟩:=AA h;refine⟨_,_,some [],Gp g5,?_⟩;cases h;exact⟨rfl,rfl⟩
theorem IY {a0:JAG}{r:(List UInt8)×Int}(h:ER a0=some r):yC wl 19 [AV.d (JAG.toD a0)] [] (.tup [.d (D.l 1 D.u8 r.1),.d (D.i r.2)]) []:=by
 refine oK Tryz.f19 ⟨rfl,?_⟩;unfold ER at h;obtain⟨v1,g2,h⟩:=AA h;refine⟨_,_,some [],Gz g2,?_⟩;(conv=>whnf);refine .go ?_;refine sJ h ?_ ?_<;>intro h
 ·cases h;exact⟨rfl,rfl⟩
 obtain⟨⟨v3,v4⟩,g5,h⟩:=AA h;refine⟨_,_,some [],Ix g5,?_⟩;cases h;exact⟨rfl,rfl⟩
theorem Gl {a0:JAG}{r:Int}(h:CQ a0=some r):yC wl 22 [AV.d (JAG.toD a0)] [] (.d (D.i r)) []:=by
 refine oK Tryz.f22 ⟨rfl,?_⟩;unfold CQ at h;obtain⟨v1,g2,h⟩:=AA h;refine⟨_,_,some [],Ee g2,?_⟩;(conv=>whnf);refine .go ?_;refine sJ h ?_ ?_<;>intro h
 ·cases h;exact⟨rfl,rfl⟩
 obtain⟨⟨v3,v4⟩,g5,h⟩:=AA h;refine⟨_,_,some [],Gp g5,?_⟩;refine⟨v3.length,X10 _,?_⟩;refine⟨_,rfl,?_⟩;cases h;exact⟨rfl,rfl⟩
theorem PX {a0:JAG}{r:Int}(h:G3 a0=some r):yC wl 23 [AV.d (JAG.toD a0)] [] (.d (D.i r)) []:=by
 refine oK Tryz.f23 ⟨rfl,?_⟩;unfold G3 at h;obtain⟨⟨v1,v2⟩,g3,h⟩:=AA h;refine⟨_,_,some [],IY g3,?_⟩;(conv=>whnf);refine .go ?_;refine sJ h ?_ ?_<;>intro h
 ·cases h;exact⟨rfl,rfl⟩
 refine⟨v1.length,X10 _,?_⟩;refine⟨_,rfl,?_⟩;cases h;exact⟨rfl,rfl⟩
theorem Pm {a0:List UInt8}{r:Int}(h:Gw a0=some r):yC wl 72 [AV.d (D.l 1 D.u8 a0)] [] (.d (D.i r)) []:=by
 refine oK Tryz.f72 ⟨rfl,?_⟩;unfold Gw at h;(conv=>whnf);refine .inl (dO ?_);obtain⟨v1,g2,h⟩:=AA h;refine⟨Ap (f:=D.u8) g2,D.u8 v1,An (f:=D.u8) g2,rfl,?_⟩;refine⟨_,GW v1,?_⟩;refine⟨by decide,_,rfl,?_⟩;obtain⟨v3,g4,h⟩:=AA h;refine⟨Ap (f:=D.u8) g4,D.u8 v3,An (f:=D.u8) g4,rfl,?_⟩;refine⟨_,GW v3,?_⟩;refine⟨_,rfl,?_⟩;(conv=>whnf);refine cO ?_;cases h;exact⟨rfl,rfl⟩
theorem Iz {a0:List UInt8}{a1:List UInt8}{r:Bool}(h:bytes_Equal a0 a1=some r):yC wl 71 [AV.d (D.l 1 D.u8 a0),AV.d (D.l 1 D.u8 a1)] [] (.d (D.b r)) []:=by
 refine oK Tryz.f71 ⟨rfl,?_⟩;unfold bytes_Equal at h;refine⟨a0,rfl,?_⟩;refine⟨a1,rfl,?_⟩;cases h;exact⟨rfl,rfl⟩
theorem Jv {a0:List UInt8}{a1:List UInt8}{r:Bool}(h:bytes_HasPrefix a0 a1=some r):yC wl 83 [AV.d (D.l 1 D.u8 a0),AV.d (D.l 1 D.u8 a1)] [] (.d (D.b r)) []:=by
 refine oK Tryz.f83 ⟨rfl,?_⟩;unfold bytes_HasPrefix at h;revert h;refine AG (fun v1=>⟨dd 4 (yb v1::dd 13 ([])),nn 18 ([])⟩) ?_ ?_
 ·intro k2 h;refine⟨a0.length,X10 _,?_⟩;refine⟨a1.length,X10 _,?_⟩;refine sJ h (fun h=>?_) fun h=>AB wk h;refine⟨a1.length,X10 _,?_⟩;obtain⟨v3,g4,h⟩:=AA h;refine⟨EX (f:=D.u8) g4,_,EW (f:=D.u8) g4,?_⟩;obtain⟨v5,g6,h⟩:=AA h;refine⟨_,_,some [],Iz g6,?_⟩;exact AB wk h
 rintro v1 h;cases h;exact⟨rfl,rfl⟩
theorem Oq {a0:List UInt8}{r:Bool×Bool}(h:HG a0=some r):yC wl 31 [AV.d (D.l 1 D.u8 a0)] [] (.tup [.d (D.b r.1),.d (D.b r.2)]) []:=by
 refine oK Tryz.f31 ⟨rfl,?_⟩;unfold HG at h;obtain⟨_,g1,h⟩:=AA h;refine⟨UR g1 (X29 rfl),D.u8 (0:UInt8),rfl,(List.map D.u8 (List.replicate (Int.toNat 4) (0:UInt8))),List.map_replicate.symm,?_⟩;refine⟨rfl,?_⟩;obtain⟨v2,g3,h⟩:=AA h;refine⟨_,_,none,Iz g3,?_⟩;(conv=>whnf);refine .go ?_;refine sJ h ?_ ?_<;>intro h
 ·cases h;exact⟨rfl,rfl⟩
 exact nomatch h
theorem Bh {r:Bool}(h:BV=some r):yC wl 24 [] [] (.d (D.b r)) []:=by
 refine oK Tryz.f24 ⟨rfl,?_⟩;unfold BV at h;(conv=>whnf);refine .inl (dO ?_);obtain⟨v1,g2,h⟩:=AA h;refine⟨_,_,I5 g2,.inl rfl,?_⟩;refine⟨rfl,?_⟩;obtain⟨⟨v3,v4⟩,g5,h⟩:=AA h;refine⟨_,_,Hw g5,.inl rfl,?_⟩;(conv=>whnf);refine cO ?_;refine⟨rfl,?_⟩;obtain⟨⟨v6,v7⟩,g8,h⟩:=AA h;refine⟨_,_,none,Oq g8,?_⟩;revert h;refine AG (fun v9=>⟨yb v9::dd 34 ([]),nn 35 ([])⟩) ?_ ?_
 ·intro k10 h;refine sJ h (fun h=>?_) fun h=>AB wk h;refine⟨v3,rfl,?_⟩;refine sJ h (fun h=>?_) fun h=>AB wk h;exact sJ h (fun h=>AB wk h) fun h=>AB wk h
 rintro v9 h;cases h;exact⟨rfl,rfl⟩
theorem law19_UpdateEncodes_ok {a0:List Int}{a1:Int}{a2:Int}{r:Bool}(h:Bl a0 a1 a2=some r):yC wl 3 [AV.d (D.l 1 D.i a0),AV.d (D.i a1),AV.d (D.i a2)] [] (.d (D.b r)) []:=by
 refine okx 2 Tryz.f3 (by kernel_rfl) (by kernel_rfl) ⟨rfl,?_⟩;unfold Bl at h;obtain⟨v1,g2,h⟩:=AA h;refine⟨_,_,some [18],Me g2,?_⟩;obtain⟨⟨v3,v4⟩,g5,h⟩:=AA h;refine⟨_,_,some [],Jg g5,?_⟩;obtain⟨v6,g7,h⟩:=AA h;refine⟨_,_,some [],Aw g7,?_⟩;revert h;refine AG (fun v8=>⟨dd 8 (yr 8 0::yr 9 0::dd 135 ([])),nn 8 (yB (JAG.av v3)::yB (JAG.av v8)::nn 137 ([]))⟩) ?_ ?_
 ·intro k9 h;revert h;refine AG (fun v10=>⟨dd 8 (yr 8 0::yr 9 0::dd 135 ([])),nn 8 (yB (JAG.av v3)::yB (JAG.av v10)::nn 137 ([]))⟩) ?_ ?_
  ·intro k11 h;refine sJ h ?_ ?_<;>intro h
   ·obtain⟨⟨v12,v13⟩,g14,h⟩:=AA h;refine⟨_,_,some [],GX g14,?_⟩;exact AB wk h
   revert h;refine AG (fun (v15,v16,v17,v18,v19,v20,v21,v22,v23,v24,v25,v26,v27)=>⟨dd 8 (yr 8 0::yr 9 0::dd 135 ([])),nn 8 (yB (JAG.av v3)::yB [y5 v15,yi v16,y0 v17,yb v18,yu v19,yu v20,yi v21,yi v22,yi v23,y1 v24,y2 v25,y4 v26,y5 v27]::nn 137 ([]))⟩) ?_ ?_
   ·intro k28 h;refine sJ h ?_ ?_<;>intro h
    ·obtain⟨_,g29,h⟩:=AA h;refine⟨Ci (g:=JAD.toD) g29,?_⟩;obtain⟨⟨v30,v31⟩,g32,h⟩:=AA h;refine⟨_,_,some [],DR g32,?_⟩;refine⟨rfl,?_⟩;obtain⟨v33,g34,h⟩:=AA h;refine⟨rfl,AZ (f:=JAD.toD) (g:=JAD.toD) g34,_,Aa (f:=JAD.toD) g34,?_⟩;exact AB wk h
    revert h;refine AG (fun (v35,v36,v37,v38,v39,v40,v41,v42,v43,v44,v45,v46,v47)=>⟨dd 8 (yr 8 0::yr 9 0::dd 135 ([])),nn 8 (yB (JAG.av v3)::yB [y5 v35,yi v36,y0 v37,yb v38,yu v39,yu v40,yi v41,yi v42,yi v43,y1 v44,y2 v45,y4 v46,y5 v47]::nn 137 ([]))⟩) ?_ ?_
    ·intro k48 h;refine sJ h ?_ ?_<;>intro h
     ·obtain⟨v49,g50,h⟩:=AA h;refine⟨_,_,some [],Aw g50,?_⟩;refine⟨_,rfl,?_⟩;revert h;refine AG (fun v51=>⟨dd 8 (yr 8 0::yr 9 0::dd 135 ([])),nn 8 (yB (JAG.av v3)::yB [yO 82 JAD.toD v51,AV.d (D.i v3.JAC.Origin),AV.d (D.l 2 JAE.toD v3.JAC.Path),AV.d (D.b v3.JAC.Next.V6),AV.d (D.u64 v3.JAC.Next.Hi),AV.d (D.u64 v3.JAC.Next.Lo),AV.d (D.i v3.JAC.MED),AV.d (D.i v3.JAC.Pref),AV.d (D.i v3.JAC.OTC),AV.d (D.l 2 JAB.toD v3.JAC.Communities),AV.d (D.l 3 JAF.toD v3.JAC.JAF),AV.d (D.l 3 JAA.toD v3.JAC.Other),AV.d (D.l 4 JAD.toD v3.Announce)]::nn 72 (yR 41 4 JAD.toD v51::nn 64 ([])))⟩) ?_ ?_
      ·intro k52 h;revert h;refine Au (fun (v53,v54)=>⟨X::X::yi a2::dd 5 (yr 8 0::yr 9 0::dd 58 (yi (AS (255+v49))::yi v53::dd 75 ([]))),nn 8 (yB (JAG.av v3)::yB [yO 82 JAD.toD v54,AV.d (D.i v3.JAC.Origin),AV.d (D.l 2 JAE.toD v3.JAC.Path),AV.d (D.b v3.JAC.Next.V6),AV.d (D.u64 v3.JAC.Next.Hi),AV.d (D.u64 v3.JAC.Next.Lo),AV.d (D.i v3.JAC.MED),AV.d (D.i v3.JAC.Pref),AV.d (D.i v3.JAC.OTC),AV.d (D.l 2 JAB.toD v3.JAC.Communities),AV.d (D.l 3 JAF.toD v3.JAC.JAF),AV.d (D.l 3 JAA.toD v3.JAC.Other),AV.d (D.l 4 JAD.toD v3.Announce)]::nn 72 (yR 41 4 JAD.toD v54::nn 64 ([])))⟩) ?_ ?_
       ·exact wk
       rintro next55 ⟨v53,v54⟩ K56 h hK57;(conv=>whnf);refine .go ?_;refine sJ h (fun h=>?_) fun h=>AB wk h;(conv=>whnf);refine .go ?_;(conv=>whnf);refine .inl (dO ?_);refine⟨_,rfl,?_⟩;obtain⟨v58,g59,h⟩:=AA h;refine⟨_,_,Aw g59,.inl rfl,?_⟩;refine⟨_,rfl,?_⟩;refine⟨rfl,?_⟩;obtain⟨v60,g61,h⟩:=AA h;refine⟨rfl,AZ (f:=JAD.toD) (g:=JAD.toD) g61,_,Aa (f:=JAD.toD) g61,?_⟩;(conv=>whnf);refine cO ?_;refine⟨_,rfl,?_⟩;exact hK57 _ _ wk h
      rintro v51 h;exact AB wk h
     revert h;refine AG (fun (v62,v63,v64,v65,v66,v67,v68,v69,v70,v71,v72,v73,v74)=>⟨dd 8 (yr 8 0::yr 9 0::dd 135 ([])),nn 8 (yB (JAG.av v3)::yB [y5 v62,yi v63,y0 v64,yb v65,yu v66,yu v67,yi v68,yi v69,yi v70,y1 v71,y2 v72,y4 v73,y5 v74]::nn 137 ([]))⟩) ?_ ?_
     ·intro k75 h;refine sJ h ?_ ?_<;>intro h
      ·obtain⟨_,g76,h⟩:=AA h;refine⟨Ci (g:=JAD.toD) g76,?_⟩;obtain⟨v77,g78,h⟩:=AA h;refine⟨_,_,some [],Aw g78,?_⟩;refine⟨rfl,?_⟩;obtain⟨v79,g80,h⟩:=AA h;refine⟨rfl,AZ (f:=JAD.toD) (g:=JAD.toD) g80,_,Aa (f:=JAD.toD) g80,?_⟩;exact AB wk h
      revert h;refine AG (fun (v81,v82,v83,v84,v85,v86,v87,v88,v89,v90,v91,v92)=>⟨dd 8 (yr 8 0::yr 9 0::dd 135 ([])),nn 8 (yB (JAG.av v3)::yB [AV.d (D.l 4 JAD.toD v3.Withdraw),yi v81,y0 v82,yb v83,yu v84,yu v85,yi v86,yi v87,yi v88,y1 v89,y2 v90,y4 v91,y5 v92]::nn 137 ([]))⟩) ?_ ?_
      ·intro k93 h;refine sJ h (fun h=>AB wk h) fun h=>?_;revert h;refine AG (fun _=>⟨X::X::yi a2::dd 5 (yr 8 0::yr 9 0::dd 15 (AV.d (D.agg [D.i (-1),D.nil 2,D.b false,D.u64 (0:UInt64),D.u64 (0:UInt64),D.i (-1),D.i (-1),D.i (-1),D.nil 2,D.nil 3,D.nil 3])::dd 119 ([]))),nn 8 (yB (JAG.av v3)::yB [AV.d (D.l 4 JAD.toD v3.Withdraw),AV.d (D.i v3.JAC.Origin),AV.d (D.l 2 JAE.toD v3.JAC.Path),AV.d (D.b v3.JAC.Next.V6),AV.d (D.u64 v3.JAC.Next.Hi),AV.d (D.u64 v3.JAC.Next.Lo),AV.d (D.i v3.JAC.MED),AV.d (D.i v3.JAC.Pref),AV.d (D.i v3.JAC.OTC),AV.d (D.l 2 JAB.toD v3.JAC.Communities),AV.d (D.l 3 JAF.toD v3.JAC.JAF),AV.d (D.l 3 JAA.toD v3.JAC.Other),AV.d (D.nil 4)]::nn 137 ([]))⟩) ?_ ?_
       ·intro k94 h;(conv=>whnf);refine inl Tryz.f17 145 (by kernel_rfl) (by kernel_rfl) ⟨rfl,?_⟩;exact AB wk h
       rintro _ h;obtain⟨v95,g96,h⟩:=AA h;refine⟨_,_,some [],Aw g96,?_⟩;refine⟨_,rfl,?_⟩;revert h;refine AG (fun v97=>⟨dd 8 (yr 8 0::yr 9 0::dd 135 ([])),nn 8 (yB (JAG.av v3)::yB [AV.d (D.l 4 JAD.toD v3.Withdraw),yi 0,AV.d (D.nil 2),yb true,yu (0:UInt64),yu (1:UInt64),yi (-1),yi (-1),yi (-1),AV.d (D.nil 2),AV.d (D.nil 3),AV.d (D.nil 3),yO 45 JAD.toD v97]::nn 35 (yR 41 4 JAD.toD v97::nn 101 ([])))⟩) ?_ ?_
       ·intro k98 h;revert h;refine Au (fun (v99,v100)=>⟨dd 8 (yr 8 0::yr 9 0::dd 24 (yi (AS (100+v95))::yi v99::dd 109 ([]))),nn 8 (yB (JAG.av v3)::yB [AV.d (D.l 4 JAD.toD v3.Withdraw),yi 0,AV.d (D.nil 2),yb true,yu (0:UInt64),yu (1:UInt64),yi (-1),yi (-1),yi (-1),AV.d (D.nil 2),AV.d (D.nil 3),AV.d (D.nil 3),yO 45 JAD.toD v100]::nn 35 (yR 41 4 JAD.toD v100::nn 101 ([])))⟩) ?_ ?_
        ·exact wk
        rintro next101 ⟨v99,v100⟩ K102 h hK103;(conv=>whnf);refine .go ?_;refine sJ h (fun h=>?_) fun h=>AB wk h;(conv=>whnf);refine .go ?_;refine⟨_,Ae _,?_⟩;refine⟨rfl,?_⟩;obtain⟨v104,g105,h⟩:=AA h;refine⟨rfl,AZ (f:=JAD.toD) (g:=JAD.toD) g105,_,Aa (f:=JAD.toD) g105,?_⟩;refine⟨_,rfl,?_⟩;exact hK103 _ _ wk h
       rintro v97 h;exact AB wk h
      rintro⟨v81,v82,v83,v84,v85,v86,v87,v88,v89,v90,v91,v92⟩ h;exact AB wk h
     rintro⟨v62,v63,v64,v65,v66,v67,v68,v69,v70,v71,v72,v73,v74⟩ h;exact AB wk h
    rintro⟨v35,v36,v37,v38,v39,v40,v41,v42,v43,v44,v45,v46,v47⟩ h;exact AB wk h
   rintro⟨v15,v16,v17,v18,v19,v20,v21,v22,v23,v24,v25,v26,v27⟩ h;exact AB wk h
  rintro v10 h;exact AB wk h
 rintro v8 h;refine⟨([v3,v8]:List JAG).length,by first | exact X10 _ | rfl | (simp only[X10];omega),?_⟩;revert h;refine AG (fun _=>⟨dd 145 ([]),nn 147 ([])⟩) ?_ ?_
 ·intro k106 h;revert h;refine JH 103 36 13 .no JAG.toD rfl (fun i107 _=>⟨dd 103 (yO 103 JAG.toD ([v3,v8]:List JAG)::yi (([v3,v8]:List JAG).length:Int)::yi (i107:Int)::dd 39 ([])),nn 103 (yR 36 13 JAG.toD ([v3,v8]:List JAG)::nn 43 ([]))⟩) ?_ ?_ ?_
  ·exact wk
  ·rintro _ K108 h;(conv=>whnf);refine .go ?_;exact AB wk h
  rintro next109 i107 x110 _ K108 hii107 hxi107 hwi107 h hK111;(conv=>whnf);refine .go ?_;(conv=>whnf);refine BC (CX hii107) ?_;(conv=>whnf);refine .go ?_;refine⟨rfl,BB (f:=JAG.toD) hii107,?_⟩;refine⟨rfl,JAG.toD x110,hxi107,?_⟩;obtain⟨⟨v112,v113⟩,g114,h⟩:=AA h;refine⟨_,_,some [],Hw g114,?_⟩;obtain⟨⟨v115,v116⟩,g117,h⟩:=AA h;refine⟨_,_,some [],IY g117,?_⟩;revert h;refine AG (fun v118=>⟨dd 103 (yO 103 JAG.toD ([v3,v8]:List JAG)::yi (([v3,v8]:List JAG).length:Int)::yi (i107:Int)::dd 36 (yb v118::X::X::[])),nn 103 (yR 36 13 JAG.toD ([v3,v8]:List JAG)::nn 43 ([]))⟩) ?_ ?_
  ·intro k119 h;(conv=>whnf);refine .inl (dO ?_);obtain⟨v120,g121,h⟩:=AA h;refine⟨_,_,Ee g121,.inl rfl,?_⟩;obtain⟨v122,g123,h⟩:=AA h;refine⟨_,_,Gz g123,.inl rfl,?_⟩;refine sJ h ?_ ?_<;>intro h
   ·(conv=>whnf);refine cO ?_;exact AB wk h
   obtain⟨v124,g125,h⟩:=AA h;refine⟨_,_,Gl g125,.inl rfl,?_⟩;obtain⟨v126,g127,h⟩:=AA h;refine⟨_,_,PX g127,.inl rfl,?_⟩;refine sJ h ?_ ?_<;>intro h
   ·(conv=>whnf);refine cO ?_;exact AB wk h
   refine⟨v112,rfl,?_⟩;refine⟨v115,rfl,?_⟩;refine sJ h ?_ ?_<;>intro h
   ·(conv=>whnf);refine cO ?_;exact AB wk h
   (conv=>whnf);refine cO ?_;exact AB wk h
  rintro v118 h;(conv=>whnf);refine .go ?_;refine sJ h ?_ ?_<;>intro h
  ·cases h;exact⟨rfl,rfl⟩
  refine⟨_,hwi107,?_⟩;exact hK111 _ _ wk h
 rintro _ h;obtain⟨v128,g129,h⟩:=AA h;refine⟨_,_,some [],Bh g129,?_⟩;cases h;exact⟨rfl,rfl⟩
theorem law19_UpdateSizes_ok {a0:List Int}{r:Bool}(h:B9 a0=some r):yC wl 4 [AV.d (D.l 1 D.i a0)] [] (.d (D.b r)) []:=by
 refine okx 2 Tryz.f4 (by kernel_rfl) (by kernel_rfl) ⟨rfl,?_⟩;unfold B9 at h;obtain⟨v1,g2,h⟩:=AA h;refine⟨_,_,some [9],Me g2,?_⟩;revert h;refine AG (fun _=>⟨X::X::X::yr 9 0::dd 6 (AV.d (D.agg [D.i (-1),D.nil 2,D.b false,D.u64 (0:UInt64),D.u64 (0:UInt64),D.i (-1),D.i (-1),D.i (-1),D.nil 2,D.nil 3,D.nil 3])::dd 38 ([])),nn 9 (yB (JAI.av v1)::nn 41 ([]))⟩) ?_ ?_
 ·intro k3 h;(conv=>whnf);refine inl Tryz.f17 49 (by kernel_rfl) (by kernel_rfl) ⟨rfl,?_⟩;exact AB wk h
 rintro _ h;obtain⟨v4,g5,h⟩:=AA h;refine⟨_,_,some [],Gl g5,?_⟩;(conv=>whnf);refine .go ?_;refine sJ h ?_ ?_<;>intro h
 ·cases h;exact⟨rfl,rfl⟩
 obtain⟨⟨v6,v7⟩,g8,h⟩:=AA h;refine⟨_,_,some [],AK g8,?_⟩;revert h;refine AG (fun v9=>⟨dd 4 (yr 4 0::dd 44 ([])),nn 4 (yB [yO 31 JAD.toD v9,yi (-1),AV.d (D.nil 2),yb false,yu (0:UInt64),yu (0:UInt64),yi (-1),yi (-1),yi (-1),AV.d (D.nil 2),AV.d (D.nil 3),AV.d (D.nil 3),AV.d (D.nil 4)]::nn 26 (yR 41 4 JAD.toD v9::nn 19 ([])))⟩) ?_ ?_
 ·intro k10 h;revert h;refine Au (fun (v11,v12,v13,v14)=>⟨X::X::X::yr 9 0::yr 4 0::yi v11::yi v12::dd 42 ([]),nn 4 (yB [yO 31 JAD.toD v14,yi (-1),AV.d (D.nil 2),yb false,yu (0:UInt64),yu (0:UInt64),yi (-1),yi (-1),yi (-1),AV.d (D.nil 2),AV.d (D.nil 3),AV.d (D.nil 3),AV.d (D.nil 4)]::nn 4 (yB (JAI.av v13)::nn 21 (yR 41 4 JAD.toD v14::nn 19 ([]))))⟩) ?_ ?_
  ·exact wk
  rintro next15 ⟨v11,v12,v13,v14⟩ K16 h hK17;(conv=>whnf);refine .go ?_;refine sJ h (fun h=>?_) fun h=>AB wk h;revert h;refine AG (fun (v18,v19,v20)=>⟨X::X::X::yr 9 0::yr 4 0::yi v18::yi v12::dd 42 ([]),nn 4 (yB [yO 31 JAD.toD v20,yi (-1),AV.d (D.nil 2),yb false,yu (0:UInt64),yu (0:UInt64),yi (-1),yi (-1),yi (-1),AV.d (D.nil 2),AV.d (D.nil 3),AV.d (D.nil 3),AV.d (D.nil 4)]::nn 4 (yB (JAI.av v19)::nn 21 (yR 41 4 JAD.toD v20::nn 19 ([]))))⟩) ?_ ?_
  ·intro k21 h;obtain⟨⟨v22,v23⟩,g24,h⟩:=AA h;refine⟨_,_,some [],DR g24,?_⟩;(conv=>whnf);refine .go ?_;refine sJ h (fun h=>AB wk h) fun h=>?_;refine⟨rfl,?_⟩;obtain⟨v25,g26,h⟩:=AA h;refine⟨rfl,AZ (f:=JAD.toD) (g:=JAD.toD) g26,_,Aa (f:=JAD.toD) g26,?_⟩;refine⟨_,rfl,?_⟩;refine⟨by decide,_,rfl,?_⟩;refine⟨_,rfl,?_⟩;refine⟨_,rfl,?_⟩;refine⟨rfl,?_⟩;obtain⟨v27,g28,h⟩:=AA h;refine⟨_,_,none,Gl g28,?_⟩;(conv=>whnf);refine .go ?_;refine sJ h (fun h=>?_) fun h=>AB wk h;cases h;exact⟨rfl,rfl⟩
  rintro⟨v18,v19,v20⟩ h;refine⟨_,rfl,?_⟩;exact hK17 _ _ wk h
 rintro v9 h;revert h;refine AG (fun v29=>⟨X::X::yb v29::dd 46 ([]),nn 51 ([])⟩) ?_ ?_
 ·intro k30 h;refine⟨rfl,?_⟩;obtain⟨v31,g32,h⟩:=AA h;refine⟨_,_,none,Ee g32,?_⟩;refine sJ h (fun h=>?_) fun h=>AB wk h;obtain⟨v33,g34,h⟩:=AA h;refine⟨_,_,some [],Bh g34,?_⟩;exact AB wk h
 rintro v29 h;cases h;exact⟨rfl,rfl⟩
theorem Fh {a0:List UInt8}{r:Bool}(h:Ej a0=some r):yC wl 26 [AV.d (D.l 1 D.u8 a0)] [] (.d (D.b r)) []:=by
 refine oK Tryz.f26 ⟨rfl,?_⟩;unfold Ej at h;refine⟨a0.length,X10 _,?_⟩;cases h;exact⟨rfl,rfl⟩
end Go.AX.Q19
end
section
namespace Go.AX.Q19
open Go Go.AX
theorem Xm {k:Nat}{v:List UInt8}(hk:k<=8)(hl:v.length=16)(hv:v.take k=List.replicate k 255) :
  (v.take k++(v.take k).take (16-k)++v.drop (k+k)).length=16/\(v.take k++(v.take k).take (16-k)++v.drop (k+k)).take (k+k)=List.replicate (k+k) 255:=by
 constructor
 ·simp only[X11,X18,X17]
  omega
 rw[hv,List.take_replicate,Nat.min_eq_right (show k<=16-k by omega),List.replicate_append_replicate,List.take_append_of_le_length (by simp),List.take_of_length_le (by simp)]
theorem Vt:FM [255] 16=some (List.replicate 16 255):=by
 have hm:Fe (AN (([255]:List UInt8).length:Int)) (AN 16)=some (0,16):=by kernel_rfl
 have e16:AS ((16:UInt64).toNat:Int)=16:=by kernel_rfl
 unfold FM
 rw[if_neg (by decide),if_neg (by decide),hm,AC]
 dsimp only
 rw[AH,if_neg (by decide)]
 show (if (decide (((16:UInt64).toNat:Int) > 9223372036854775807))=true then none else _)=_
 rw[if_neg (by decide),if_neg (by decide),AH,e16,if_neg (by decide)]
 refine Rz (by decide) fun l hl=>?_
 have hl:l.length=16:=hl
 have hc:chk ((16:Int)<=16/\(16:Int)<=(l.length:Int))=some ():=if_pos (by omega)
 have hp:part l 0 16=some l:=by
  have:=Il (l:=l) (a:=0) (b:=16) (by omega) (by omega)
  rw[List.drop_zero,List.take_of_length_le (by omega)] at this
  exact this
 rw[hc,AC,hp,AC,AH]
 refine Dz (fun s:Int×List UInt8=>s.2.length=16/\∃k:Nat,s.1=k/\(k=1\/k=2\/k=4\/k=8\/k=16)/\s.2.take k=List.replicate k 255) (fun s=>(16-s.1).toNat) (fun _=>some (List.replicate 16 255)) ?_ fuel _ ?_ ?_
 ·rintro next ⟨b,v⟩ ⟨h1,k,h2,h3,h4⟩ hn
  dsimp only at h1 h2 h4 ⊢
  subst h2
  by_cases h16:k=16
  ·subst h16
   rw[if_neg (by simp),<- h4,List.take_of_length_le (by omega)]
  have hk:k<=8:=by omega
  obtain⟨g1,g2⟩:=Xm hk h1 h4
  have em:(if (16:Int)<(k:Int) then (16:Int) else (k:Int))=(k:Int):=if_neg (by omega)
  have c1:chk (0<=(k:Int)/\(k:Int)<=(v.length:Int)/\(v.length:Int)<=(v.length:Int))=some ():=if_pos (by omega)
  have c2:chk (0<=(0:Int)/\(0:Int)<=(k:Int)/\(k:Int)<=(v.length:Int))=some ():=if_pos (by omega)
  have et:List.take (Int.toNat (k:Int)-Int.toNat 0) (List.drop (Int.toNat 0) v)=v.take k:=by rw[Int.toNat_natCast];rfl
  have el:(v.take k).length=k:=by rw[X18];omega
  rw[if_pos (by simp only[decide_eq_true_eq];omega),em,c1,AC,c2,AC,et,el,Int.toNat_natCast,Int.toNat_natCast,h1,Nat.min_eq_left (show k<=16-k by omega),AQ (by omega)]
  refine hn _ ⟨?_,k+k,by dsimp only;omega,by omega,?_⟩ (by dsimp only;omega)
  ·dsimp only
   unfold cpy
   rw[el,Nat.min_eq_left (show k<=16-k by omega)]
   exact g1
  dsimp only
  unfold cpy
  rw[el,Nat.min_eq_left (show k<=16-k by omega)]
  exact g2
 ·refine⟨?_,1,?_,.inl rfl,?_⟩
  ·dsimp only
   unfold cpy
   simp only[X11,X18,X17,X12,X13]
   omega
  ·dsimp only
   rw[hl]
   rfl
  dsimp only
  unfold cpy
  rw[hl]
  rfl
 exact Be (by dsimp only;omega)
theorem Qm:CP=some (List.replicate 16 255):=by
 unfold CP
 rw[Vt,AC]
def J2:List UInt8:=List.replicate 16 255
def frB (m:JAH):List UInt8:=J2++two (m.Body.length+19)++[Ah m.Type_]++m.Body
def frS (m:JAH):List UInt8×Int:=if 1<=m.Type_/\m.Type_<=5 then (if m.Body.length<=4077 then (frB m,0) else ([],3)) else ([],1)
theorem Gg:J2.length=16:=by unfold J2;simp
theorem RQ (n:Nat):(two n).length=2:=rfl
theorem JV (m:JAH):(frB m).length=19+m.Body.length:=by
 unfold frB
 simp only[X11,Gg,RQ,X22]
theorem T8 (t:Int):EU t=some (decide (1<=t/\t<=5)):=by
 unfold EU
 rw[AH]
 by_cases h:1<=t
 ·rw[if_pos (by simpa using h)]
  show some (decide (t<=5))=_
  congr 1
  rw[decide_eq_decide];omega
 rw[if_neg (by simpa using h)]
 congr 1
 rw[eq_comm,decide_eq_false_iff_not];omega
theorem OL {m:JAH}(hm:m.Body.length<=1000000):EN m=some (frS m):=by
 unfold EN frS
 rw[T8,AC]
 by_cases h:1<=m.Type_/\m.Type_<=5
 case neg=>rw[decide_eq_false h,if_pos (by rfl),if_neg h]
 rw[decide_eq_true h,if_neg (by decide),if_pos h]
 by_cases hl:m.Body.length<=4077
 case neg=>rw[if_pos (by simp only[decide_eq_true_eq];omega),if_neg hl]
 rw[if_neg (by simp only[decide_eq_true_eq];omega),if_pos hl]
 have e:AS (19+(m.Body.length:Int))=((m.Body.length+19:Nat):Int):=by rw[AQ (by omega)];omega
 have l16:=Gg
 rw[show CP=some J2 from Qm,AC,e,R9 (by omega),AC,AP (by decide) (by simp only[X11,RQ,X22];omega),AC,
  AP (by decide) (by simp only[X11,RQ,X22];omega),AC]
 rfl
theorem Jb {m:JAH}(hm:m.Body.length<=1000000):Dh m=some (frS m):=by
 unfold Dh frS
 have hk :∀{ρ:Type} (K:Bool->Option ρ),AI (τ:=Bool) (fun k1=>
   if (decide (m.Type_<1)) then
    k1 true
   else
    k1 (cond false true (decide (m.Type_ > 5)))) K=K (!decide (1<=m.Type_/\m.Type_<=5)):=by
  intro ρ K
  rw[AH]
  by_cases h1:1<=m.Type_
  case neg=>rw[if_pos (by simp only[decide_eq_true_eq];omega),decide_eq_false (fun q=>h1 q.1)];rfl
  rw[if_neg (by simp only[decide_eq_true_eq];omega)]
  by_cases h2:m.Type_<=5
  case neg=>rw[decide_eq_true (show m.Type_ > 5 by omega),decide_eq_false (fun q=>h2 q.2)];rfl
  rw[decide_eq_false (show ¬ m.Type_ > 5 by omega),decide_eq_true ⟨h1,h2⟩];rfl
 rw[hk]
 by_cases h:1<=m.Type_/\m.Type_<=5
 case neg=>rw[decide_eq_false h,if_neg h];rfl
 rw[decide_eq_true h,if_pos h]
 show (if decide ((m.Body.length:Int) > 4077)=true then some ([],3) else _)=_
 by_cases hl:m.Body.length<=4077
 case neg=>rw[if_pos (by simp only[decide_eq_true_eq];omega),if_neg hl]
 rw[if_neg (by simp only[decide_eq_true_eq];omega),if_pos hl]
 have l16:=Gg
 have e:AS ((m.Body.length:Int)+19)=((m.Body.length+19:Nat):Int):=by rw[AQ (by omega)];omega
 have loop :∀{ρ:Type} (K:List UInt8->Option ρ),AI (τ:=(List UInt8)) (fun k3=>
   A1 (σ:=Int×(List UInt8)) (fun next4 (v5,v6)=>
    if (decide (v5<16)) then
     Option.bind (apnd (α:=UInt8) 1 v6 ([(255:UInt8)]:List UInt8)) fun v7=>
     next4 ((AS (v5+1)),v7)
    else
     k3 v6
   ) fuel (0,[])) K=K J2:=by
  intro ρ K
  rw[AH]
  refine Dz (fun s:Int×List UInt8=>0<=s.1/\s.1<=16/\s.2=List.replicate s.1.toNat 255) (fun s=>(16-s.1).toNat) (fun _=>K J2) ?_ fuel (0,[]) ⟨by dsimp only;omega,by dsimp only;omega,rfl⟩ (Be (by dsimp only;omega))
  rintro next ⟨i,w⟩ ⟨i1,i2,i3⟩ hn
  dsimp only at i1 i2 i3 ⊢
  by_cases h:i<16
  ·rw[if_pos (by simpa using h),AP (by decide) (by rw[i3];simp only[X20,X22];omega),AC,AQ (x:=i+1) (by omega)]
   refine hn _ ⟨by dsimp only;omega,by dsimp only;omega,?_⟩ (by dsimp only;omega)
   dsimp only
   rw[i3,show (i+1).toNat=i.toNat+1 by omega,List.replicate_succ']
  rw[if_neg (by simpa using h),i3,show i.toNat=16 by omega]
  rfl
 rw[loop,AP (by decide) (by simp only[X12,X13];omega),AC,AP (by decide) (by simp only[X11,X12,X13];omega),AC,e]
 unfold frB two
 simp only[List.append_assoc,List.cons_append,List.nil_append]
def z0:JAH:=⟨0,[]⟩
def GA (b:List UInt8):Bool:=(b.take 16).all fun x=>x==255
def paN (b:List UInt8)(x y t:UInt8)(r:List UInt8):JAH×Int×Int:=
 if x.toNat*256+y.toNat<19\/4096<x.toNat*256+y.toNat\/¬ (1<=t.toNat/\t.toNat<=5) then (z0,0,12) else
  if b.length<x.toNat*256+y.toNat then (z0,0,4) else (⟨(t.toNat:Int),r.take (x.toNat*256+y.toNat-19)⟩,((x.toNat*256+y.toNat:Nat):Int),0)
def paS (b:List UInt8):JAH×Int×Int:=
 if GA b=true then (match b.drop 16 with
  | x::y::t::r=>paN b x y t r
  | _=>(z0,0,4)) else (z0,0,12)
theorem Ww (b:List UInt8):bytes_HasPrefix J2 (b.take 16)=some (GA b):=by
 have l16:=Gg
 have hl:(b.take 16).length<=16:=by rw[X18];omega
 unfold bytes_HasPrefix
 rw[AH,if_pos (by simp only[decide_eq_true_eq];omega),Ge (by omega),AC,Xb,AC]
 congr 1
 show ((J2.take (b.take 16).length)==b.take 16)=_
 unfold GA J2
 rw[X28,beq_iff_eq,List.all_eq_true,List.take_replicate,Nat.min_eq_left hl]
 constructor
 ·intro h x hx
  rw[<- h] at hx
  simpa using List.eq_of_mem_replicate hx
 intro h
 exact (List.eq_replicate_iff.2 ⟨rfl,fun x hx=>by simpa using h x hx⟩).symm
theorem U4 (b:List UInt8):(b.length<19/\∀{β:Type} {f:UInt8->UInt8->UInt8->List UInt8->β} {z:β},(match b.drop 16 with | x::y::t::r=>f x y t r | _=>z)=z) \/∃x y t r,b.drop 16=x::y::t::r/\b.length=19+r.length:=by
 have hl:=X17 (l:=b) (i:=16)
 rcases h:b.drop 16 with _ | ⟨x,_ | ⟨y,_ | ⟨t,r⟩⟩⟩
 ·rw[h,X13] at hl
  exact .inl ⟨by omega,rfl⟩
 ·rw[h] at hl
  simp only[X12,X13] at hl
  exact .inl ⟨by omega,rfl⟩
 ·rw[h] at hl
  simp only[X12,X13] at hl
  exact .inl ⟨by omega,rfl⟩
 rw[h] at hl
 simp only[X12] at hl
 exact .inr ⟨x,y,t,r,rfl,by omega⟩
theorem Zt {b:List UInt8}{x y t:UInt8}{r:List UInt8}(h:b.drop 16=x::y::t::r):geti b 16=some x/\geti b 17=some y/\geti b 18=some t/\b.drop 19=r:=by
 have hl:=congrArg List.length h
 rw[X17] at hl
 simp only[X12] at hl
 have g :∀j,b[16+j]?=(x::y::t::r)[j]?:=fun j=>by rw[<- h,List.getElem?_drop]
 have k :∀(i:Nat) (u:UInt8),b[i]?=some u->geti b (i:Int)=some u:=fun i u e=>by
  obtain⟨h1,h2⟩:=X16.1 e
  rw[Dw h1,h2]
 refine⟨k 16 x (g 0),k 17 y (g 1),k 18 t (g 2),?_⟩
 have:b.drop (16+3)=(b.drop 16).drop 3:=by rw[List.drop_drop]
 rw[show (19:Nat)=16+3 from rfl,this,h]
 rfl
theorem Gi {b:List UInt8}(hb:b.length<=1000000):CO b=some (paS b):=by
 unfold CO
 have e:part b 0 (if (b.length:Int)<16 then (b.length:Int) else 16)=some (b.take 16):=by
  by_cases h:b.length<16
  ·rw[if_pos (by omega),Ge (by omega),List.take_of_length_le (Nat.le_refl _),List.take_of_length_le (by omega)]
  rw[if_neg (by omega)]
  exact Ge (n:=16) (by omega)
 rw[show CP=some J2 from Qm,AC,e,AC,Ww,AC]
 unfold paS
 cases GA b
 ·rfl
 rw[if_neg (by decide),if_pos rfl]
 rcases U4 b with ⟨h1,h2⟩|⟨x,y,t,r,h1,h2⟩
 ·rw[if_pos (by simp only[decide_eq_true_eq];omega),h2]
  rfl
 obtain⟨g1,g2,g3,g4⟩:=Zt h1
 have hx:=x.toNat_lt;have hy:=y.toNat_lt
 rw[if_neg (by simp only[decide_eq_true_eq];omega),show part b 16 (b.length:Int)=some (b.drop 16) from Oe (n:=16) (by omega),AC,h1,YK,AC,g3,AC,AH]
 show _=some (paN b x y t r)
 unfold paN
 generalize hN:x.toNat*256+y.toNat=n
 by_cases c1:n<19
 ·rw[if_pos (by simp only[decide_eq_true_eq];omega),if_pos (c:=n<19\/4096<n\/¬(1<=t.toNat/\t.toNat<=5)) (.inl c1)]
  rfl
 rw[if_neg (by simp only[decide_eq_true_eq];omega)]
 by_cases c2:4096<n
 ·rw[if_pos (by rw[cond_false,decide_eq_true_eq];omega),if_pos (c:=n<19\/4096<n\/¬(1<=t.toNat/\t.toNat<=5)) (.inr (.inl c2))]
  rfl
 rw[if_neg (by rw[cond_false,decide_eq_true_eq];omega),T8,AC]
 by_cases c3:1<=t.toNat/\t.toNat<=5
 case neg=>
  rw[if_pos (c:=n<19\/4096<n\/¬(1<=t.toNat/\t.toNat<=5)) (.inr (.inr c3)),decide_eq_false (p:=1<=(t.toNat:Int)/\(t.toNat:Int)<=5) (by omega)]
  rfl
 rw[if_neg (c:=n<19\/4096<n\/¬(1<=t.toNat/\t.toNat<=5)) (by omega),decide_eq_true (p:=1<=(t.toNat:Int)/\(t.toNat:Int)<=5) (by omega)]
 show (if decide ((b.length:Int)<(n:Int))=true then some (z0,0,4) else _)=_
 by_cases c4:b.length<n
 ·rw[if_pos (by simp only[decide_eq_true_eq];omega),if_pos c4]
 rw[if_neg (by simp only[decide_eq_true_eq];omega),if_neg c4,show part b 19 (n:Int)=some ((b.drop 19).take (n-19)) from Il (a:=19) (by omega) (by omega),AC,g4]
 have:F5 (r.take (n-19))=some (r.take (n-19)):=by
  unfold F5
  rw[AP (by decide) (by simp only[X13,X18];omega),AC]
  rfl
 rw[this,AC]
theorem RO {ρ:Type}{K:Unit->Option ρ}{r0:Option ρ} :∀(l:List UInt8) (i:Nat),Ak (σ:=Unit) K (fun next2 (x3:UInt8) i4 _=>
  AI (τ:=Bool) (fun k5=>
   if (decide ((i4:Int)<16)) then
    k5 (cond true ((x3.toNat:Int) != 255) false)
   else
    k5 false
  ) fun v6=>
  if v6 then
   r0
  else
   next2 ()) l i ()=if ((l.take (16-i)).all fun x=>x==255)=true then K () else r0
 | [],i=>by rw[List.take_nil];rfl
 | x::t,i=>by
  rw[Vw,AH]
  by_cases h:i<16
  ·rw[if_pos (by simp only[decide_eq_true_eq];omega),show 16-i=(16-(i+1))+1 by omega,List.take_succ_cons,List.all_cons]
   have e:((x.toNat:Int) != 255)=!(x==255):=by
    rw[X28,bne_iff_ne,Bool.not_eq_true',beq_eq_false_iff_ne,ne_eq,ne_eq]
    have:(255:UInt8).toNat=255:=rfl
    rw[<- UInt8.toNat_inj,this]
    omega
   rw[e]
   cases (x==255)
   ·rfl
   exact (RO t (i+1)).trans (by rw[Bool.true_and])
  rw[if_neg (by simp only[decide_eq_true_eq];omega),show 16-i=0 by omega]
  refine (RO t (i+1)).trans ?_
  rw[show 16-(i+1)=0 by omega,List.take_zero,List.take_zero]
theorem WG {b:List UInt8}(hb:b.length<=1000000):Fq b=some (paS b):=by
 unfold Fq
 rw[AH,RO]
 unfold paS
 show (if GA b=true then _ else _)=_
 cases GA b
 ·rfl
 rw[if_pos rfl,if_pos rfl]
 rcases U4 b with ⟨h1,h2⟩|⟨x,y,t,r,h1,h2⟩
 ·rw[if_pos (by simp only[decide_eq_true_eq];omega),h2]
  rfl
 obtain⟨g1,g2,g3,g4⟩:=Zt h1
 have hx:=x.toNat_lt;have hy:=y.toNat_lt
 rw[if_neg (by simp only[decide_eq_true_eq];omega),g1,AC,g2,AC,UB (by omega) hy,AH,h1]
 show _=some (paN b x y t r)
 unfold paN
 generalize hN:x.toNat*256+y.toNat=n
 by_cases c1:n<19
 ·rw[if_pos (by simp only[decide_eq_true_eq];omega),if_pos (c:=n<19\/4096<n\/¬(1<=t.toNat/\t.toNat<=5)) (.inl c1)]
  rfl
 rw[if_neg (by simp only[decide_eq_true_eq];omega)]
 by_cases c2:4096<n
 ·rw[if_pos (by rw[cond_false,decide_eq_true_eq];omega),if_pos (c:=n<19\/4096<n\/¬(1<=t.toNat/\t.toNat<=5)) (.inr (.inl c2))]
  rfl
 rw[if_neg (by rw[cond_false,decide_eq_true_eq];omega),g3,AC]
 by_cases c3:1<=t.toNat
 case neg=>
  rw[if_pos (by rw[cond_false,decide_eq_true_eq];omega),if_pos (c:=n<19\/4096<n\/¬(1<=t.toNat/\t.toNat<=5)) (.inr (.inr (by omega)))]
  rfl
 rw[if_neg (by rw[cond_false,decide_eq_true_eq];omega),AC]
 by_cases c5:t.toNat<=5
 case neg=>
  have:decide ((t.toNat:Int) > 5)=true:=by rw[decide_eq_true_eq];omega
  rw[this,if_pos (c:=n<19\/4096<n\/¬(1<=t.toNat/\t.toNat<=5)) (.inr (.inr (by omega)))]
  rfl
 have:decide ((t.toNat:Int) > 5)=false:=by rw[decide_eq_false_iff_not];omega
 rw[this,if_neg (c:=n<19\/4096<n\/¬(1<=t.toNat/\t.toNat<=5)) (by omega)]
 show (if decide ((b.length:Int)<(n:Int))=true then some (z0,0,4) else _)=_
 by_cases c4:b.length<n
 ·rw[if_pos (by simp only[decide_eq_true_eq];omega),if_pos c4]
 rw[if_neg (by simp only[decide_eq_true_eq];omega),if_neg c4,AC,show part b 19 (n:Int)=some ((b.drop 19).take (n-19)) from Il (a:=19) (by omega) (by omega),AC,g4,
  AP (by decide) (by simp only[X13,X18];omega),AC]
theorem Qe (m:JAH)(h:m.Body.length<=4077) :∃x y:UInt8,frB m=J2++(x::y::Ah m.Type_::m.Body)/\x.toNat*256+y.toNat=m.Body.length+19:=by
 obtain⟨x,y,h1,h2⟩:=Re (n:=m.Body.length+19) (by omega)
 refine⟨x,y,?_,h2⟩
 unfold frB
 rw[h1]
 simp only[List.append_assoc,List.cons_append,List.nil_append]
theorem XW (l:List UInt8):GA (J2++l)=true:=by
 unfold GA
 rw[List.take_append_of_le_length (by rw[Gg];exact Nat.le_refl _),show (16:Nat)=J2.length from Gg.symm,List.take_length]
 rfl
theorem Vh (l:List UInt8):(J2++l).drop 16=l:=by
 rw[show (16:Nat)=J2.length from Gg.symm,List.drop_append_of_le_length (Nat.le_refl _),List.drop_length,List.nil_append]
theorem VF {t:Int}(h:1<=t/\t<=5):((Ah t).toNat:Int)=t:=by
 obtain⟨k,rfl⟩ :∃k:Nat,t=k:=⟨t.toNat,by omega⟩
 rw[CJ,UInt8.toNat_ofNat']
 omega
theorem V0 {m:JAH}(ht:1<=m.Type_/\m.Type_<=5)(hm:m.Body.length<=4077)(e:List UInt8):paS (frB m++e)=(m,19+(m.Body.length:Int),0):=by
 obtain⟨x,y,h1,h2⟩:=Qe m hm
 have hl:=JV m
 have h3:=VF ht
 unfold paS
 rw[h1,List.append_assoc,XW,if_pos rfl,Vh]
 show paN _ x y (Ah m.Type_) (m.Body++e)=_
 unfold paN
 rw[h2,if_neg (by omega),if_neg (by rw[<- List.append_assoc,<- h1,X11];omega),h3,show m.Body.length+19-19=m.Body.length by omega,List.take_append_of_le_length (Nat.le_refl _),List.take_length]
 congr 2
 omega
theorem VO {m:JAH}(ht:1<=m.Type_/\m.Type_<=5)(hm:m.Body.length<=4077){c:Nat}(hc:c<(frB m).length):paS ((frB m).take c)=(z0,0,4):=by
 obtain⟨x,y,h1,h2⟩:=Qe m hm
 have hl:=JV m
 have ha:GA ((frB m).take c)=true:=by
  have:=XW (x::y::Ah m.Type_::m.Body)
  rw[<- h1] at this
  unfold GA at this ⊢
  rw[List.all_eq_true] at this ⊢
  intro z hz
  rw[List.take_take] at hz
  refine this z ?_
  have hz2:z∈((frB m).take 16).take c:=by rw[List.take_take,Nat.min_comm];exact hz
  exact List.mem_of_mem_take hz2
 unfold paS
 rw[ha,if_pos rfl]
 rcases U4 ((frB m).take c) with ⟨_,q⟩|⟨x',y',t',r',q1,q2⟩
 ·rw[q]
 rw[X18] at q2
 have q3:=q1
 rw[List.drop_take,h1,Vh] at q3
 obtain⟨k,hk⟩ :∃k,c-16=k+3:=⟨c-19,by omega⟩
 rw[hk] at q3
 simp only[List.take_succ_cons,List.cons.injEq] at q3
 obtain⟨rfl,rfl,rfl,_⟩:=q3
 have h3:=VF ht
 rw[q1]
 show paN _ x y (Ah m.Type_) r'=_
 unfold paN
 rw[h2,if_neg (by omega),if_pos (by rw[X18];omega)]
theorem YY {b:List UInt8}{i:Nat}{v:UInt8}(hi:i<16)(hb:i<b.length)(hv:v≠255):paS (b.set i v)=(z0,0,12):=by
 have:GA (b.set i v)=false:=by
  unfold GA
  rw[List.all_eq_false]
  refine⟨v,?_,by simpa using hv⟩
  refine List.mem_of_getElem? (i:=i) ?_
  rw[List.getElem?_take_of_lt hi,List.getElem?_set_self hb]
 unfold paS
 rw[this]
 rfl
theorem Jc {b:List UInt8}{c:Bool}(h:¬ (!decide ((b.length:Int)<=600))=true):b.length<=600:=by
 cases h2:decide ((b.length:Int)<=600)
 ·rw[h2] at h;simp at h
 simp only[decide_eq_true_eq] at h2;omega
theorem updateCut (b:List UInt8)(k c at_ v:Int):C4 b k c at_ v=some true:=by
 have main:Ok (C4 b k c at_ v) fun r=>r=true:=by
  unfold C4
  rw[Ks,AC]
  refine .ite (fun _=>?_) fun h=>?_
  ·rw[awake,AC]
   exact .ret rfl
  have hb:=Jc (c:=true) h
  refine .bind (Aj (by omega)) fun t ht=>?_
  rw[AQ (x:=1+t) (by omega),OL (by dsimp only;omega),AC]
  obtain⟨m,hm⟩ :∃m:JAH,m=⟨1+t,b⟩:=⟨_,rfl⟩
  rw[<- hm]
  have m1:1<=m.Type_/\m.Type_<=5:=by rw[hm];dsimp only;omega
  have m2:m.Body=b:=by rw[hm]
  have hl:=JV m
  rw[m2] at hl
  have e:frS m=(frB m,0):=by
   unfold frS
   rw[if_pos m1,if_pos (by rw[m2];omega)]
  rw[e]
  dsimp only
  rw[AH,bne_self_eq_false,if_neg (by decide)]
  have e2:((frB m).length:Int)=19+(b.length:Int):=by omega
  rw[AQ (x:=19+(b.length:Int)) (by omega)]
  have e3:(((frB m).length:Int) != 19+(b.length:Int))=false:=by rw[e2,bne_self_eq_false]
  rw[e3]
  show Ok (Option.bind (A6 c ((frB m).length:Int)) _) _
  refine .bind (Aj (by omega)) fun n hn=>?_
  obtain⟨q,rfl⟩ :∃q:Nat,n=q:=⟨n.toNat,by omega⟩
  rw[Ge (by omega),AC,Gi (by rw[X18];omega),AC,VO m1 (by rw[m2];omega) (by omega),AP (by decide) (by simp only[X13];omega),AC]
  refine .bind (Aj (by omega)) fun i hi=>.bind (Aj (by omega)) fun w hw=>.bind (.geti (by omega)) fun _ _=>?_
  obtain⟨j,rfl⟩ :∃j:Nat,i=j:=⟨i.toNat,by omega⟩
  obtain⟨w,rfl⟩ :∃j:Nat,w=j:=⟨w.toNat,by omega⟩
  have hs:seti (frB m) (j:Int) (Ah (w:Int))=some ((frB m).set j (Ah (w:Int))):=by
   unfold seti
   rw[if_pos (by omega),Int.toNat_natCast]
  have hv:Ah (w:Int)≠255:=by
   intro q
   have:=congrArg UInt8.toNat q
   rw[CJ,UInt8.toNat_ofNat'] at this
   have h255:(255:UInt8).toNat=255:=rfl
   omega
  rw[hs,AC,Gi (by rw[X21];omega),AC,YY (by omega) (by omega) hv,AH]
  dsimp only
  rw[if_pos (by rfl),if_pos (by rfl),if_pos (by rfl),if_pos (by rfl),awake,AC]
  exact .ret rfl
 obtain⟨r,h1,h2⟩:=main
 rw[h1,h2]
theorem Yh (m:JAH):(frS m).1.length<=4096:=by
 have:=JV m
 unfold frS
 split
 ·split
  ·dsimp only;omega
  exact Nat.zero_le _
 exact Nat.zero_le _
theorem updateFrames (raw:JAH)(b:List UInt8)(k i v:Int):Bv raw b k i v=some true:=by
 have main:Ok (Bv raw b k i v) fun r=>r=true:=by
  unfold Bv
  refine .join (fun c=>c=false->raw.Body.length<=600/\b.length<=600) (fun k1 hk1=>?_) fun c hc=>.ite (fun _=>?_) fun h=>?_
  ·rw[Ks,AC]
   refine .ite (fun _=>hk1 _ fun q=>nomatch q) fun h=>?_
   rw[Ks,AC]
   refine hk1 _ fun q=>⟨Jc (c:=true) h,Jc (c:=true) ?_⟩
   rw[show (!decide ((b.length:Int)<=600))=false from q]
   decide
  ·rw[awake,AC]
   exact .ret rfl
  obtain⟨hr,hb⟩:=hc (by simpa using h)
  refine .bind (Aj (by omega)) fun t ht=>.bind (Aj (by omega)) fun n hn=>?_
  rw[AQ (x:=4076+n) (by omega)]
  refine .bind (Ok.chk (by omega)) fun _ _=>?_
  refine .join (fun _=>True) (fun k8 hk8=>.for_ (fun _=>hk8 _ trivial) fun next z i _ _ hz hn=>?_) fun _ _=>?_
  ·have sz:z.Body.length<=1000000:=by
    simp only[List.mem_cons,List.not_mem_nil,or_false] at hz
    rcases hz with rfl | rfl | rfl
    ·omega
    ·dsimp only;omega
    simp only[X20];omega
   rw[OL sz,AC,Jb sz]
   obtain⟨p,q⟩:=frS z
   dsimp only
   rw[AC]
   dsimp only
   rw[AH,beq_self_eq_true,if_neg (by decide),bne_self_eq_false]
   exact hn _
  refine .bind (Aj (by omega)) fun t2 ht2=>?_
  rw[AQ (x:=1+t2) (by omega),Jb (by dsimp only;omega),AC]
  have hfl:=Yh ⟨1+t2,b⟩
  obtain⟨F,fe,hF⟩ :∃F fe,frS ⟨1+t2,b⟩=(F,fe):=⟨_,_,rfl⟩
  rw[hF] at hfl ⊢
  dsimp only at hfl ⊢
  refine .bind (Kr (by omega)) fun s1 hs1=>.bind (Aj (by omega)) fun m1 hm1=>.bind (Aj (by omega)) fun m2 hm2=>.bind (Kr (by omega)) fun s2 hs2=>?_
  rw[AQ (x:=(F.length:Int)+1) (by omega)]
  refine .bind (Aj (by omega)) fun m3 hm3=>.bind (.part (by omega)) fun p hp=>.bind (Ok.apnd (by decide) (by simp only[X13];omega)) fun _ _=>.bind (Ok.apnd (by decide) (by omega)) fun w hw=>?_
  refine .join (fun _=>True) (fun k28 hk28=>.for_ (fun _=>hk28 _ trivial) fun next z i _ _ hz hn=>?_) fun _ _=>?_
  ·have sz:z.length<=1000000:=by
    simp only[List.mem_cons,List.not_mem_nil,or_false] at hz
    rcases hz with rfl | rfl | rfl | rfl | rfl | rfl
    ·omega
    ·omega
    ·omega
    ·omega
    ·omega
    rw[hw,X11];omega
   rw[Gi sz,AC,WG sz]
   obtain⟨p,q,s⟩:=paS z
   dsimp only
   rw[AC]
   dsimp only
   rw[AH,bne_self_eq_false,if_neg (by decide),beq_self_eq_true,if_neg (by decide),bne_self_eq_false,if_neg (by decide),bne_self_eq_false]
   exact hn _
  rw[awake,AC]
  exact .ret rfl
 obtain⟨r,h1,h2⟩:=main
 rw[h1,h2]
theorem KX {F:List UInt8->List UInt8} :∀{l:List (List UInt8)},(∀x∈l,(F x).length<=700)->(l.flatMap F).length<=700*l.length
 | [],_=>Nat.le_refl _
 | x::t,h=>by
  have h1:=h x (by simp)
  have h2:=KX (F:=F) (l:=t) fun y hy=>h y (X19 _ hy)
  rw[List.flatMap_cons,X11,X12]
  omega
theorem updateStream (a:List (List UInt8))(k c:Int):By a k c=some true:=by
 have main:Ok (By a k c) fun r=>r=true:=by
  unfold By
  refine .ite (fun _=>?_) fun h=>?_
  ·rw[awake,AC]
   exact .ret rfl
  simp only[decide_eq_true_eq] at h
  obtain⟨t,ht,t1,t2⟩:=Aj (v:=k) (n:=5) (by omega)
  obtain⟨F,hF⟩ :∃F:List UInt8->List UInt8,F=fun x=>frB ⟨1+t,x⟩:=⟨_,rfl⟩
  have hFl :∀x,(F x).length=19+x.length:=fun x=>by rw[hF];exact JV ⟨1+t,x⟩
  refine .join (fun v=>v=a.flatMap F/\∀x∈a,x.length<=600) (fun k2 hk2=>?_) fun v hv=>?_
  ·refine .forX (fun i s=>s=(a.take i).flatMap F/\∀x∈a.take i,x.length<=600) ⟨rfl,fun x hx=>by simp at hx⟩ (fun s hs=>hk2 _ (by rw[List.take_length] at hs;exact hs)) fun next x i s hx hI hn=>?_
   rw[Ks,AC]
   refine .ite (fun _=>?_) fun h2=>?_
   ·rw[awake,AC]
    exact .ret rfl
   have hxl:=Jc (c:=true) h2
   rw[ht,AC,AQ (x:=1+t) (by omega),Jb (by dsimp only;omega),AC]
   have e:frS ⟨1+t,x⟩=(F x,0):=by
    unfold frS
    rw[if_pos (by dsimp only;omega),if_pos (by dsimp only;omega),hF]
   rw[e]
   dsimp only
   have hi:=(X16.1 hx).1
   have hs:s.length<=700*9:=by
    rw[hI.1]
    refine Nat.le_trans (KX (F:=F) fun y hy=>?_) (Nat.mul_le_mul_left _ (by rw[X18];omega))
    have:=hI.2 y hy
    rw[hFl];omega
   refine .bind (Ok.apnd (by decide) (by rw[hFl];omega)) fun r hr=>hn _ ?_
   rw[List.take_add_one,hx,Option.toList_some,List.flatMap_append,hr,hI.1]
   refine⟨by simp,LU hI.2 hxl⟩
  obtain⟨hv1,hv2⟩:=hv
  have hvl:v.length<=6300:=by
   rw[hv1]
   refine Nat.le_trans (KX (F:=F) fun y hy=>?_) (Nat.mul_le_mul_left 700 (show a.length<=9 by omega))
   have:=hv2 y hy
   rw[hFl];omega
  refine .bind (Aj (by omega)) fun n hn=>?_
  obtain⟨n,rfl⟩ :∃q:Nat,n=q:=⟨n.toNat,by omega⟩
  obtain⟨N,hN⟩ :∃N:JAH,N=⟨4,[]⟩:=⟨_,rfl⟩
  have hNl:(frB N).length=19:=by rw[JV,hN];rfl
  have e4:frS N=(frB N,0):=by
   unfold frS
   rw[if_pos (by rw[hN];decide),if_pos (by rw[hN];decide)]
  rw[<- hN,Jb (by rw[hN];decide),AC,e4]
  dsimp only
  rw[Ge (by omega),AC,AP (by decide) (by rw[X18];omega),AC]
  obtain⟨T,hT⟩ :∃T,T=(frB N).take n:=⟨_,rfl⟩
  have hTl:T.length<=19:=by rw[hT,X18];omega
  rw[<- hT]
  refine .join (fun s:List UInt8×Int=>s=(T,0)) (fun k19 hk19=>?_) ?_
  ·refine .forX (fun i (s:List UInt8×Int)=>s.1=(a.drop i).flatMap F++T/\s.2=(((a.drop i).flatMap F).length:Int)) ⟨by rw[hv1];rfl,by rw[hv1];rfl⟩ (fun s hs=>hk19 _ ?_) fun next x i s hx hI hn=>?_
   ·rw[List.drop_length] at hs
    exact Prod.ext hs.1 hs.2
   have hi:=(X16.1 hx).1
   have hd:a.drop i=x::a.drop (i+1):=by
    rw[<- (X16.1 hx).2]
    exact List.drop_eq_getElem_cons hi
   have hxl:=hv2 x (List.mem_of_getElem? hx)
   have hrl:((a.drop (i+1)).flatMap F).length<=6300:=by
    refine Nat.le_trans (KX (F:=F) fun y hy=>?_) (Nat.mul_le_mul_left 700 (show (a.drop (i+1)).length<=9 by rw[X17];omega))
    have:=hv2 y (List.mem_of_mem_drop hy)
    rw[hFl];omega
   obtain⟨b,w⟩:=s
   obtain⟨I1,I2⟩:=hI
   dsimp only at I1 I2 ⊢
   rw[hd,List.flatMap_cons] at I1 I2
   have hbl:b.length=19+x.length+((a.drop (i+1)).flatMap F).length+T.length:=by
    rw[I1];simp only[X11,hFl]
   rw[Gi (by omega),AC]
   have hp:paS b=(⟨1+t,x⟩,19+(x.length:Int),0):=by
    rw[I1,List.append_assoc,hF]
    exact V0 (by dsimp only;omega) (by dsimp only;omega) _
   rw[hp]
   dsimp only
   have hlt:decide (19+(x.length:Int) > (b.length:Int))=false:=by rw[decide_eq_false_iff_not];omega
   rw[AH,bne_self_eq_false,if_neg (by decide),beq_self_eq_true,if_neg (by decide),AQ (x:=19+(x.length:Int)) (by omega),bne_self_eq_false,if_neg (by decide),hlt]
   show Ok (Option.bind (part b (19+(x.length:Int)) (b.length:Int)) _) _
   have hpt:part b (19+(x.length:Int)) (b.length:Int)=some ((a.drop (i+1)).flatMap F++T):=by
    have:=Oe (l:=b) (n:=19+x.length) (by omega)
    rw[show (19+(x.length:Int))=((19+x.length:Nat):Int) by omega,this,I1,List.append_assoc,List.drop_append_of_le_length (by rw[hFl];omega),List.drop_eq_nil_of_le (by rw[hFl];omega),List.nil_append]
   rw[hpt,AC]
   refine hn _ ⟨rfl,?_⟩
   dsimp only
   rw[I2,X11,hFl,AQ (by omega)]
   omega
  rintro _ rfl
  dsimp only
  rw[Gi (by omega),AC,hT,VO (by rw[hN];decide) (by rw[hN];decide) (by omega),AH]
  dsimp only
  rw[if_pos (by rfl),if_pos (by rfl),awake,AC]
  exact .ret rfl
 obtain⟨r,h1,h2⟩:=main
 rw[h1,h2]
theorem Pn (a:List (List UInt8))(k c:Int){p:Prop}(_:p)(_:I64 k)(_:I64 c):By a k c=some true:=updateStream a k c
theorem Ph (m:JAH)(b:List UInt8)(k i v:Int){p q:Prop}(_:p)(_:q)(_:I64 k)(_:I64 i)(_:I64 v):Bv m b k i v=some true:=updateFrames m b k i v
theorem Uk (b:List UInt8)(k c i v:Int){p:Prop}(_:p)(_:I64 k)(_:I64 c)(_:I64 i)(_:I64 v):C4 b k c i v=some true:=updateCut b k c i v
end Go.AX.Q19
end
section
namespace Go.AX.Q19
open Go Go.AX Go.Proofs
variable {wl:Prop}
theorem Iq {a0:List UInt8}{a1:Int}{a2:Int}{r:(List UInt8)}(h:E0 a0 a1 a2=some r):yC wl 28 [AV.d (D.l 1 D.u8 a0),AV.d (D.i a1),AV.d (D.i a2)] [] (.d (D.l 1 D.u8 r)) []:=by
 refine oK Tryz.f28 ⟨rfl,?_⟩;unfold E0 at h;obtain⟨_,g1,h⟩:=AA h;refine⟨Ci (g:=D.u8) g1,?_⟩;refine⟨a0.length,by first | exact X10 _ | rfl | (simp only[X10];omega),?_⟩;(conv=>whnf);refine .go ?_;refine sJ h ?_ ?_<;>intro h
 ·refine⟨_,Af _,?_⟩;(conv=>whnf);refine .inl ?_;(conv=>whnf);refine .inl ?_;refine⟨rfl,?_⟩;cases h;exact⟨rfl,rfl⟩
 refine⟨a0.length,by first | exact X10 _ | rfl | (simp only[X10];omega),?_⟩;obtain⟨v2,g3,h⟩:=AA h;refine⟨_,_,some [],Aw g3,?_⟩;refine⟨by decide,_,rfl,?_⟩;obtain⟨v4,g5,h⟩:=AA h;refine⟨_,_,some [],Aw g5,?_⟩;(conv=>whnf);refine .go ?_;(conv=>whnf);refine .go ?_;refine sJ h ?_ ?_<;>intro h
 ·refine⟨_,Af _,?_⟩;obtain⟨v6,g7,h⟩:=AA h;refine⟨rfl,Ap (f:=D.u8) g7,?_⟩;obtain⟨v8,g9,h⟩:=AA h;have g9l:=Ld g9;refine⟨rfl,rfl,D.u8 v6,(An (f:=D.u8) g7),?_⟩;refine⟨_,RS (f:=D.u8) g9,?_⟩;(conv=>whnf);refine .inl ?_;(conv=>whnf);refine .inl ?_;refine⟨(by first | rfl | (simp only[X10];omega)|(simp only[cpy,X10,X21,X11,X18,X17,X20];omega)),?_⟩;cases h;exact⟨rfl,rfl⟩
 (conv=>whnf);refine .go ?_;refine sJ h ?_ ?_<;>intro h
 ·(conv=>whnf);refine .inl (dO ?_);(conv=>whnf);refine .inr (.inl ?_);obtain⟨_,g10,h⟩:=AA h;have g12c:=D4 g10;refine⟨OH (f:=D.u8) g10,rfl,(Int.toNat 0),(Int.toNat v2-Int.toNat 0),rfl,rfl,?_⟩;refine⟨_,rfl,?_⟩;(conv=>whnf);refine .inr (.inl ?_);obtain⟨_,g11,h⟩:=AA h;have g14c:=D4 g11;refine⟨Nx (f:=D.u8) g11,rfl,(Int.toNat (AS (v2+1))),(Int.toNat (a0.length:Int)-Int.toNat (AS (v2+1))),rfl,(by rw[X10]),?_⟩;refine⟨(by first | rfl | (simp only[X10,X21];omega)|(simp only[cpy,X10,X21,X11,X18,X17,X20];omega)),List.map D.u8 (List.take (Int.toNat (a0.length:Int)-Int.toNat (AS (v2+1))) (List.drop (Int.toNat (AS (v2+1))) a0)),J4,?_⟩;obtain⟨v12,g13,h⟩:=AA h;refine⟨rfl,rfl,(by simp only[X10];omega),Z2 (g:=D.u8) g13 (by omega),_,aO (f:=D.u8) g13,?_⟩;(conv=>whnf);refine cO ?_;(conv=>whnf);refine .inl ?_;(conv=>whnf);refine .inl ?_;refine⟨rfl,?_⟩;cases h;exact⟨rfl,rfl⟩
 (conv=>whnf);refine .go ?_;refine sJ h ?_ ?_<;>intro h
 ·(conv=>whnf);refine .inl (dO ?_);(conv=>whnf);refine .inr (.inl ?_);obtain⟨_,g14,h⟩:=AA h;have g18c:=D4 g14;refine⟨OH (f:=D.u8) g14,rfl,(Int.toNat 0),(Int.toNat v2-Int.toNat 0),rfl,rfl,?_⟩;refine⟨(by first | rfl | (simp only[X10,X21];omega)|(simp only[cpy,X10,X21,X11,X18,X17,X20];omega)),List.map D.u8 (List.take (Int.toNat v2-Int.toNat 0) (List.drop (Int.toNat 0) a0)),J4,?_⟩;obtain⟨_,g15,h⟩:=AA h;refine⟨Ci (g:=D.u8) g15,?_⟩;refine⟨_,Af _,?_⟩;refine⟨rfl,?_⟩;obtain⟨v16,g17,h⟩:=AA h;refine⟨rfl,AZ (f:=D.u8) (g:=D.u8) g17,_,Aa (f:=D.u8) g17,?_⟩;(conv=>whnf);refine .inr (.inl ?_);obtain⟨_,g18,h⟩:=AA h;have g24c:=D4 g18;refine⟨Nx (f:=D.u8) g18,rfl,(Int.toNat v2),(Int.toNat (a0.length:Int)-Int.toNat v2),rfl,(by rw[X10]),?_⟩;refine⟨(by first | rfl | (simp only[X10,X21];omega)|(simp only[cpy,X10,X21,X11,X18,X17,X20];omega)),List.map D.u8 (List.take (Int.toNat (a0.length:Int)-Int.toNat v2) (List.drop (Int.toNat v2) a0)),J4,?_⟩;obtain⟨v19,g20,h⟩:=AA h;refine⟨rfl,AZ (f:=D.u8) (g:=D.u8) g20,_,Aa (f:=D.u8) g20,?_⟩;(conv=>whnf);refine cO ?_;(conv=>whnf);refine .inl ?_;(conv=>whnf);refine .inl ?_;refine⟨rfl,?_⟩;cases h;exact⟨rfl,rfl⟩
 (conv=>whnf);refine .inl ?_;refine⟨rfl,?_⟩;obtain⟨v21,g22,h⟩:=AA h;refine⟨EX (f:=D.u8) g22,_,EW (f:=D.u8) g22,?_⟩;cases h;exact⟨rfl,rfl⟩
end Go.AX.Q19
end
