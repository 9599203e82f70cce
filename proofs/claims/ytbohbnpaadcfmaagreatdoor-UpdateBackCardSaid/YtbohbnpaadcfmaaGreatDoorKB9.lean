/-
  Texts of one proof, packed.
-/
import Derived.Test.YtbohbnpaadcfmaaGreatDoorKB2
import Derived.Test.YtbohbnpaadcfmaaGreatDoorKB4
import Derived.Test.YtbohbnpaadcfmaaGreatDoorKB5
import Derived.Test.YtbohbnpaadcfmaaGreatDoorKB8
import Derived.IntWalk
import Derived.Shelf.SlSortCmp.NoneTotal
import Derived.Shelf.SortM.Plain
import Derived.Shelf.SortM.SortNone
set_option linter.all false
set_option maxRecDepth 100000
set_option maxHeartbeats 4000000
open List renaming length_map→X10,length_append→X11,getElem?_eq_getElem→X15,length_drop→X17,length_take→X18,length_replicate→X20,length_set→X21
open Option.some renaming injEq→X24,inj→X25
open Prod.mk renaming injEq→X26
open Nat renaming le_of_ble_eq_true→X29,mul_le_mul_right→X31,add_mul→X32
section
namespace Go.AX.Q19
open Go Go.AX Go.Proofs
variable {wl:Prop}
theorem Fj {a0:Addr}{r:(List UInt8)}(h:BM a0=some r):yC wl 135 [AV.d (Addr.toD a0)] [] (.d (D.l 1 D.u8 r)) []:=by
 refine oK Tryz.f135 ⟨rfl,?_⟩;unfold BM at h;obtain⟨v1,g2,h⟩:=AB h;refine⟨_,_,some [],G5 g2,?_⟩;(conv=>whnf);refine .go ?_;refine sJ h ?_ ?_<;>intro h
 ·(conv=>whnf);refine .inl ?_;cases h;exact⟨rfl,rfl⟩
 revert h;refine AG (fun v3=>⟨X::yr 1 0::X::yi v3::dd 34 ([]),N::yB (Addr.av a0)::nn 36 ([])⟩) ?_ ?_
 ·intro k4 h;exact sJ h (fun h=>AA wk h) fun h=>AA wk h
 rintro v3 h;obtain⟨_,g5,h⟩:=AB h;refine⟨W4 g5 (X29 rfl),D.u8 (0:UInt8),rfl,(List.map D.u8 (List.replicate (Int.toNat v3) (0:UInt8))),List.map_replicate.symm,?_⟩;refine⟨_,rfl,?_⟩;revert h;refine AG (fun v6=>⟨dd 4 (yO 12 D.u8 v6::dd 33 ([])),nn 12 (yR 5 1 D.u8 v6::nn 25 ([]))⟩) ?_ ?_
 ·intro k7 h;revert h;refine Aw (fun (v8,v9,v10)=>⟨X::yr 1 0::X::X::yO 12 D.u8 v10::yi v8::dd 32 ([]),N::yB (Addr.av v9)::nn 10 (yR 5 1 D.u8 v10::nn 25 ([]))⟩) ?_ ?_
  ·exact wk
  rintro next11 ⟨v8,v9,v10⟩ K12 h hK13;(conv=>whnf);refine .go ?_;refine sJ h (fun h=>?_) fun h=>AA wk h;(conv=>whnf);refine .go ?_;refine⟨_,As _,?_⟩;obtain⟨v14,g15,h⟩:=AB h;refine⟨rfl,Ah (f:=D.u8) g15,?_⟩;obtain⟨v16,g17,h⟩:=AB h;have g17l:=I6 g17;refine⟨rfl,rfl,D.u8 v14,(Aj (f:=D.u8) g15),?_⟩;refine⟨_,O2 (f:=D.u8) g17,?_⟩;refine⟨by decide,_,Np v9.Lo _,?_⟩;refine⟨by decide,_,Av _,?_⟩;refine⟨_,Av _,?_⟩;refine⟨by decide,_,Np v9.Hi _,?_⟩;refine⟨_,rfl,?_⟩;exact hK13 _ _ wk h
 rintro v6 h;(conv=>whnf);refine .inl ?_;(conv=>whnf);refine .inl ?_;refine⟨rfl,?_⟩;cases h;exact⟨rfl,rfl⟩
theorem Jv {a0:List UInt8}{a1:List JAE}{a2:Bool}{r:(List UInt8)}(h:EX a0 a1 a2=some r):yC wl 96 [AV.own 0 (List.map D.u8 a0).length,AV.d (D.l 4 JAE.toD a1),AV.d (D.b a2)] [.row 5 1 (List.map D.u8 a0) .no] (AV.own 0 (List.map D.u8 r).length) [.row 5 1 (List.map D.u8 r) .no]:=by
 refine oK Tryz.f96 ⟨rfl,?_⟩;unfold EX at h;refine⟨a1.length,X10 _,?_⟩;revert h;refine AG (fun v1=>⟨yO 0 D.u8 v1::dd 36 ([]),yR 5 1 D.u8 v1::nn 37 ([])⟩) ?_ ?_
 ·intro k2 h;revert h;refine Ac 9 4 JAE.toD rfl (fun i3 v4=>⟨yO 0 D.u8 v4::X::yb a2::dd 6 (y5 a1::yi (a1.length:Int)::yi (i3:Int)::dd 25 ([])),yR 5 1 D.u8 v4::nn 37 ([])⟩) ?_ ?_ ?_
  ·exact wk
  ·rintro v4 K5 h;(conv=>whnf);refine .go ?_;(conv=>whnf);refine BI Cb ?_;exact AA wk h
  rintro next6 i3 x7 v4 K5 hii3 hxi3 hwi3 h hK8;(conv=>whnf);refine .go ?_;(conv=>whnf);refine BD (CQ hii3) ?_;(conv=>whnf);refine .go ?_;refine⟨BF (f:=JAE.toD) hii3,JAE.toD x7,hxi3,rfl,?_⟩;revert h;refine AG (fun v9=>⟨yO 0 D.u8 v9::X::yb a2::dd 6 (y5 a1::yi (a1.length:Int)::yi (i3:Int)::dd 25 ([])),yR 5 1 D.u8 v9::nn 37 ([])⟩) ?_ ?_
  ·intro k10 h;refine sJ h (fun h=>?_) fun h=>AA wk h;(conv=>whnf);refine .inl (dO ?_);refine⟨_,As _,?_⟩;refine⟨rfl,?_⟩;obtain⟨v11,g12,h⟩:=AB h;refine⟨rfl,Ab (f:=D.u8) (g:=D.u8) g12,_,Ag (f:=D.u8) g12,?_⟩;obtain⟨v13,g14,h⟩:=AB h;refine⟨_,_,Fj g14,.inl rfl,?_⟩;refine⟨_,rfl,?_⟩;refine⟨by decide,_,rfl,?_⟩;obtain⟨v15,g16,h⟩:=AB h;refine⟨Fe (f:=D.u8) g16,_,EL (f:=D.u8) g16,?_⟩;obtain⟨v17,g18,h⟩:=AB h;refine⟨rfl,Ab (f:=D.u8) (g:=D.u8) g18,_,Ag (f:=D.u8) g18,?_⟩;(conv=>whnf);refine cO ?_;exact AA wk h
  rintro v9 h;refine⟨_,hwi3,?_⟩;exact hK8 _ _ wk h
 rintro v1 h;(conv=>whnf);refine .inl ?_;cases h;exact⟨rfl,rfl⟩
theorem Gn {a0:Int}{r:Bool}(h:EA a0=some r):yC wl 139 [AV.d (D.i a0)] [] (.d (D.b r)) []:=by
 refine oK Tryz.f139 ⟨rfl,?_⟩;unfold EA at h;revert h;refine AG (fun v1=>⟨X::X::yb v1::dd 6 ([]),nn 9 ([])⟩) ?_ ?_
 ·intro k2 h;exact sJ h (fun h=>AA wk h) fun h=>AA wk h
 rintro v1 h;cases h;exact⟨rfl,rfl⟩
theorem Jx {a0:List JAD}{r:Bool}(h:FV a0=some r):yC wl 138 [AV.d (D.l 2 JAD.toD a0)] [] (.d (D.b r)) []:=by
 refine oK Tryz.f138 ⟨rfl,?_⟩;unfold FV at h;refine⟨a0.length,X10 _,?_⟩;revert h;refine AG (fun v1=>⟨X::X::X::yi v1::dd 71 ([]),nn 75 ([])⟩) ?_ ?_
 ·intro k2 h;revert h;refine Ac 8 2 JAD.toD rfl (fun i3 v4=>⟨y0 a0::X::X::yi v4::dd 4 (y0 a0::yi (a0.length:Int)::yi (i3:Int)::dd 64 ([])),nn 75 ([])⟩) ?_ ?_ ?_
  ·exact wk
  ·rintro v4 K5 h;(conv=>whnf);refine .go ?_;(conv=>whnf);refine BI Cb ?_;exact AA wk h
  rintro next6 i3 x7 v4 K5 hii3 hxi3 hwi3 h hK8;(conv=>whnf);refine .go ?_;(conv=>whnf);refine BD (CQ hii3) ?_;revert h;refine AG (fun _=>⟨y0 a0::X::X::yi (AN (v4+(x7.ASNs.length:Int)))::dd 4 (y0 a0::yi (a0.length:Int)::yi (i3:Int)::dd 64 ([])),nn 75 ([])⟩) ?_ ?_
  ·intro k9 h;refine⟨BF (f:=JAD.toD) hii3,JAD.toD x7,hxi3,rfl,?_⟩;revert h;refine AG (fun v10=>⟨y0 a0::X::X::yi v4::X::yr 5 0::X::X::y0 a0::yi (a0.length:Int)::yi (i3:Int)::dd 25 (yb v10::dd 38 ([])),nn 5 (yB (JAD.av x7)::nn 69 ([]))⟩) ?_ ?_
   ·intro k11 h;refine⟨x7.ASNs.length,X10 _,?_⟩;refine sJ h (fun h=>AA wk h) fun h=>?_;refine sJ h (fun h=>?_) fun h=>AA wk h;refine sJ h (fun h=>?_) fun h=>AA wk h;refine⟨_,rfl,?_⟩;obtain⟨v12,g13,h⟩:=AB h;refine⟨Ah (f:=JAD.toD) g13,JAD.toD v12,Aj (f:=JAD.toD) g13,rfl,?_⟩;exact AA wk h
   rintro v10 h;(conv=>whnf);refine .go ?_;refine sJ h ?_ ?_<;>intro h
   ·cases h;exact⟨rfl,rfl⟩
   refine⟨x7.ASNs.length,X10 _,?_⟩;revert h;refine AG (fun _=>⟨y0 a0::X::X::yi v4::X::yr 5 0::X::X::y0 a0::yi (a0.length:Int)::yi (i3:Int)::dd 64 ([]),nn 5 (yB (JAD.av x7)::nn 69 ([]))⟩) ?_ ?_
   ·intro k14 h;revert h;refine Ac 38 1 D.i rfl (fun i15 _=>⟨y0 a0::X::X::yi v4::X::yr 5 0::X::X::y0 a0::yi (a0.length:Int)::yi (i3:Int)::dd 27 (AV.d (D.l 1 D.i x7.ASNs)::yi (x7.ASNs.length:Int)::yi (i15:Int)::dd 34 ([])),nn 5 (yB (JAD.av x7)::nn 69 ([]))⟩) ?_ ?_ ?_
    ·exact wk
    ·rintro _ K16 h;(conv=>whnf);refine .go ?_;(conv=>whnf);refine BI Cb ?_;exact AA wk h
    rintro next17 i15 x18 _ K16 hii15 hxi15 hwi15 h hK19;(conv=>whnf);refine .go ?_;(conv=>whnf);refine BD (CQ hii15) ?_;(conv=>whnf);refine .go ?_;refine⟨BF (f:=D.i) hii15,D.i x18,hxi15,rfl,?_⟩;revert h;refine AG (fun v20=>⟨y0 a0::X::X::yi v4::X::yr 5 0::X::X::y0 a0::yi (a0.length:Int)::yi (i3:Int)::dd 27 (AV.d (D.l 1 D.i x7.ASNs)::yi (x7.ASNs.length:Int)::yi (i15:Int)::dd 24 (yb v20::dd 9 ([]))),nn 5 (yB (JAD.av x7)::nn 69 ([]))⟩) ?_ ?_
    ·intro k21 h;obtain⟨v22,g23,h⟩:=AB h;refine⟨_,_,some [],Gn g23,?_⟩;refine sJ h (fun h=>AA wk h) fun h=>?_;refine sJ h (fun h=>?_) fun h=>AA wk h;refine sJ h (fun h=>?_) fun h=>AA wk h;refine⟨_,rfl,?_⟩;obtain⟨v24,g25,h⟩:=AB h;refine⟨Ah (f:=D.i) g25,D.i v24,Aj (f:=D.i) g25,rfl,?_⟩;exact AA wk h
    rintro v20 h;(conv=>whnf);refine .go ?_;refine sJ h ?_ ?_<;>intro h
    ·cases h;exact⟨rfl,rfl⟩
    refine⟨_,hwi15,?_⟩;exact hK19 _ _ wk h
   rintro _ h;refine⟨x7.ASNs.length,X10 _,?_⟩;refine⟨_,rfl,?_⟩;exact AA wk h
  rintro _ h;refine⟨_,hwi3,?_⟩;exact hK8 _ _ wk h
 rintro v1 h;cases h;exact⟨rfl,rfl⟩
theorem J1 {a0:List Int}{r:Int}(h:Dj a0=some r):yC wl 188 [AV.d (D.l 1 D.i a0)] [] (.d (D.i r)) []:=by
 refine oK Tryz.f188 ⟨rfl,?_⟩;unfold Dj at h;refine⟨a0.length,X10 _,?_⟩;(conv=>whnf);refine .go ?_;refine sJ h ?_ ?_<;>intro h
 ·exact nomatch h
 obtain⟨v1,g2,h⟩:=AB h;refine⟨Ah (f:=D.i) g2,D.i v1,Aj (f:=D.i) g2,rfl,?_⟩;revert h;refine AG (fun v3=>⟨X::X::X::yi v3::dd 21 ([]),nn 25 ([])⟩) ?_ ?_
 ·intro k4 h;revert h;refine Aw (fun (v5,v6)=>⟨y6 a0::X::X::yi v5::yi v6::dd 20 ([]),nn 25 ([])⟩) ?_ ?_
  ·exact wk
  rintro next7 ⟨v5,v6⟩ K8 h hK9;refine⟨a0.length,X10 _,?_⟩;(conv=>whnf);refine .go ?_;refine sJ h (fun h=>?_) fun h=>AA wk h;(conv=>whnf);refine .go ?_;obtain⟨v10,g11,h⟩:=AB h;refine⟨Ah (f:=D.i) g11,D.i v10,Aj (f:=D.i) g11,rfl,?_⟩;refine⟨_,rfl,?_⟩;refine⟨_,rfl,?_⟩;exact hK9 _ _ wk h
 rintro v3 h;cases h;exact⟨rfl,rfl⟩
theorem J0 {a0:List Int}{r:Int}(h:Di a0=some r):yC wl 189 [AV.d (D.l 1 D.i a0)] [] (.d (D.i r)) []:=by
 refine oK Tryz.f189 ⟨rfl,?_⟩;unfold Di at h;refine⟨a0.length,X10 _,?_⟩;(conv=>whnf);refine .go ?_;refine sJ h ?_ ?_<;>intro h
 ·exact nomatch h
 obtain⟨v1,g2,h⟩:=AB h;refine⟨Ah (f:=D.i) g2,D.i v1,Aj (f:=D.i) g2,rfl,?_⟩;revert h;refine AG (fun v3=>⟨X::X::X::yi v3::dd 21 ([]),nn 25 ([])⟩) ?_ ?_
 ·intro k4 h;revert h;refine Aw (fun (v5,v6)=>⟨y6 a0::X::X::yi v5::yi v6::dd 20 ([]),nn 25 ([])⟩) ?_ ?_
  ·exact wk
  rintro next7 ⟨v5,v6⟩ K8 h hK9;refine⟨a0.length,X10 _,?_⟩;(conv=>whnf);refine .go ?_;refine sJ h (fun h=>?_) fun h=>AA wk h;(conv=>whnf);refine .go ?_;obtain⟨v10,g11,h⟩:=AB h;refine⟨Ah (f:=D.i) g11,D.i v10,Aj (f:=D.i) g11,rfl,?_⟩;refine⟨_,rfl,?_⟩;refine⟨_,rfl,?_⟩;exact hK9 _ _ wk h
 rintro v3 h;cases h;exact⟨rfl,rfl⟩
theorem Hm {a0:Int}{a1:List Int}{r:Bool}(h:DY a0 a1=some r):yC wl 181 [AV.d (D.i a0),AV.d (D.l 1 D.i a1)] [] (.d (D.b r)) []:=by
 refine oK Tryz.f181 ⟨rfl,?_⟩;unfold DY at h;revert h;refine AG (fun v1=>⟨dd 4 (yb v1::dd 9 ([])),nn 14 ([])⟩) ?_ ?_
 ·intro k2 h;obtain⟨v3,g4,h⟩:=AB h;refine⟨_,_,some [],J1 g4,?_⟩;refine sJ h (fun h=>?_) fun h=>AA wk h;obtain⟨v5,g6,h⟩:=AB h;refine⟨_,_,some [],J0 g6,?_⟩;exact AA wk h
 rintro v1 h;cases h;exact⟨rfl,rfl⟩
theorem N7 {a0:JAB}{r:Bool}(h:E4 a0=some r):yC wl 163 [AV.d (JAB.toD a0)] [] (.d (D.b r)) []:=by
 refine oK Tryz.f163 ⟨rfl,?_⟩;unfold E4 at h;refine⟨rfl,?_⟩;obtain⟨v1,g2,h⟩:=AB h;refine⟨_,_,none,Hm g2,?_⟩;cases h;exact⟨rfl,rfl⟩
theorem I0 {a0:Int}{r:Bool}(h:cmp_isNaN_int a0=some r):yC wl 151 [AV.d (D.i a0)] [] (.d (D.b r)) []:=by
 refine oK Tryz.f151 ⟨rfl,?_⟩;unfold cmp_isNaN_int at h;cases h;exact⟨rfl,rfl⟩
theorem A1 {a0:Int}{a1:Int}{r:Int}(h:cmp_Compare_int a0 a1=some r):yC wl 122 [AV.d (D.i a0),AV.d (D.i a1)] [] (.d (D.i r)) []:=by
 refine oK Tryz.f122 ⟨rfl,?_⟩;unfold cmp_Compare_int at h;obtain⟨v1,g2,h⟩:=AB h;refine⟨_,_,some [],I0 g2,?_⟩;obtain⟨v3,g4,h⟩:=AB h;refine⟨_,_,some [],I0 g4,?_⟩;(conv=>whnf);refine .go ?_;refine sJ h ?_ ?_<;>intro h
 ·(conv=>whnf);refine .go ?_;refine sJ h ?_ ?_<;>intro h
  ·cases h;exact⟨rfl,rfl⟩
  cases h;exact⟨rfl,rfl⟩
 (conv=>whnf);refine .go ?_;refine sJ h ?_ ?_<;>intro h
 ·cases h;exact⟨rfl,rfl⟩
 (conv=>whnf);refine .go ?_;refine sJ h ?_ ?_<;>intro h
 ·cases h;exact⟨rfl,rfl⟩
 (conv=>whnf);refine .go ?_;refine sJ h ?_ ?_<;>intro h
 ·cases h;exact⟨rfl,rfl⟩
 cases h;exact⟨rfl,rfl⟩
theorem G8 {a0:List Int}{r:Int}(h:FC a0=some r):yC wl 182 [AV.d (D.l 1 D.i a0)] [] (.d (D.i r)) []:=by
 refine oK Tryz.f182 ⟨rfl,?_⟩;unfold FC at h;refine⟨a0.length,X10 _,?_⟩;revert h;refine AG (fun _=>⟨X::X::X::yi 0::dd 14 ([]),nn 18 ([])⟩) ?_ ?_
 ·intro k1 h;revert h;refine Ac 6 1 D.i rfl (fun i2 _=>⟨X::X::X::yi 0::X::X::y6 a0::yi (a0.length:Int)::yi (i2:Int)::dd 9 ([]),nn 18 ([])⟩) ?_ ?_ ?_
  ·exact wk
  ·rintro _ K3 h;(conv=>whnf);refine .go ?_;(conv=>whnf);refine BI Cb ?_;exact AA wk h
  rintro next4 i2 x5 _ K3 hii2 hxi2 hwi2 h hK6;(conv=>whnf);refine .go ?_;(conv=>whnf);refine BD (CQ hii2) ?_;(conv=>whnf);refine .go ?_;refine⟨BF (f:=D.i) hii2,D.i x5,hxi2,rfl,?_⟩;(conv=>whnf);refine .go ?_;refine sJ h ?_ ?_<;>intro h
  ·cases h;exact⟨rfl,rfl⟩
  refine⟨_,hwi2,?_⟩;exact hK6 _ _ wk h
 rintro _ h;cases h;exact⟨rfl,rfl⟩
theorem LC {a0:JAB}{a1:JAB}{r:Int}(h:Dy a0 a1=some r):yC wl 164 [AV.d (JAB.toD a0),AV.d (JAB.toD a1)] [] (.d (D.i r)) []:=by
 refine oK Tryz.f164 ⟨rfl,?_⟩;unfold Dy at h;(conv=>whnf);refine .inl (dO ?_);obtain⟨v1,g2,h⟩:=AB h;refine⟨_,_,A1 g2,.inl rfl,?_⟩;obtain⟨v3,g4,h⟩:=AB h;refine⟨_,_,A1 g4,.inl rfl,?_⟩;refine⟨rfl,?_⟩;obtain⟨v5,g6,h⟩:=AB h;refine⟨_,_,G8 g6,.inl rfl,?_⟩;(conv=>whnf);refine cO ?_;cases h;exact⟨rfl,rfl⟩
theorem Bt {a0:List JAB}{r:Bool}(h:Ae a0=some r):yC wl 162 [AV.d (D.l 2 JAB.toD a0),AV.fn 163 [],AV.fn 164 []] [] (.d (D.b r)) []:=by
 refine oK Tryz.f162 ⟨rfl,?_⟩;unfold Ae at h;refine⟨a0.length,X10 _,?_⟩;revert h;refine AG (fun _=>⟨y1 a0::dd 38 ([]),nn 39 ([])⟩) ?_ ?_
 ·intro k1 h;revert h;refine Ac 9 2 JAB.toD rfl (fun i2 _=>⟨y1 a0::AV.fn 163 []::AV.fn 164 []::dd 6 (y1 a0::yi (a0.length:Int)::yi (i2:Int)::dd 27 ([])),nn 39 ([])⟩) ?_ ?_ ?_
  ·exact wk
  ·rintro _ K3 h;(conv=>whnf);refine .go ?_;(conv=>whnf);refine BI Cb ?_;exact AA wk h
  rintro next4 i2 x5 _ K3 hii2 hxi2 hwi2 h hK6;(conv=>whnf);refine .go ?_;(conv=>whnf);refine BD (CQ hii2) ?_;(conv=>whnf);refine .go ?_;refine⟨BF (f:=JAB.toD) hii2,JAB.toD x5,hxi2,rfl,?_⟩;revert h;refine AG (fun v7=>⟨y1 a0::AV.fn 163 []::AV.fn 164 []::dd 6 (y1 a0::yi (a0.length:Int)::yi (i2:Int)::dd 22 (yb v7::dd 4 ([]))),nn 39 ([])⟩) ?_ ?_
  ·intro k8 h;(conv=>whnf);refine .inl (dO ?_);obtain⟨v9,g10,h⟩:=AB h;refine⟨_,_,N7 g10,.inl rfl,?_⟩;refine sJ h ?_ ?_<;>intro h
   ·(conv=>whnf);refine cO ?_;exact AA wk h
   refine sJ h ?_ ?_<;>intro h
   ·refine⟨_,rfl,?_⟩;obtain⟨v11,g12,h⟩:=AB h;refine⟨Ah (f:=JAB.toD) g12,JAB.toD v11,Aj (f:=JAB.toD) g12,rfl,?_⟩;obtain⟨v13,g14,h⟩:=AB h;refine⟨_,_,LC g14,.inl rfl,?_⟩;(conv=>whnf);refine cO ?_;exact AA wk h
   (conv=>whnf);refine cO ?_;exact AA wk h
  rintro v7 h;(conv=>whnf);refine .go ?_;refine sJ h ?_ ?_<;>intro h
  ·cases h;exact⟨rfl,rfl⟩
  refine⟨_,hwi2,?_⟩;exact hK6 _ _ wk h
 rintro _ h;refine⟨a0.length,X10 _,?_⟩;cases h;exact⟨rfl,rfl⟩
theorem F5 {a0:List JAB}{r:Bool}(h:DK a0=some r):yC wl 140 [AV.d (D.l 2 JAB.toD a0)] [] (.d (D.b r)) []:=by
 refine oK Tryz.f140 ⟨rfl,?_⟩;unfold DK at h;obtain⟨v1,g2,h⟩:=AB h;refine⟨_,_,some [],Bt g2,?_⟩;cases h;exact⟨rfl,rfl⟩
theorem Jh {a0:JAF}{r:Bool}(h:DN a0=some r):yC wl 166 [AV.d (JAF.toD a0)] [] (.d (D.b r)) []:=by
 refine oK Tryz.f166 ⟨rfl,?_⟩;unfold DN at h;refine⟨rfl,?_⟩;obtain⟨v1,g2,h⟩:=AB h;refine⟨_,_,none,Hm g2,?_⟩;cases h;exact⟨rfl,rfl⟩
theorem IP {a0:JAF}{a1:JAF}{r:Int}(h:CM a0 a1=some r):yC wl 167 [AV.d (JAF.toD a0),AV.d (JAF.toD a1)] [] (.d (D.i r)) []:=by
 refine oK Tryz.f167 ⟨rfl,?_⟩;unfold CM at h;(conv=>whnf);refine .inl (dO ?_);obtain⟨v1,g2,h⟩:=AB h;refine⟨_,_,A1 g2,.inl rfl,?_⟩;obtain⟨v3,g4,h⟩:=AB h;refine⟨_,_,A1 g4,.inl rfl,?_⟩;obtain⟨v5,g6,h⟩:=AB h;refine⟨_,_,A1 g6,.inl rfl,?_⟩;refine⟨rfl,?_⟩;obtain⟨v7,g8,h⟩:=AB h;refine⟨_,_,G8 g8,.inl rfl,?_⟩;(conv=>whnf);refine cO ?_;cases h;exact⟨rfl,rfl⟩
theorem BY {a0:List JAF}{r:Bool}(h:AW a0=some r):yC wl 165 [AV.d (D.l 3 JAF.toD a0),AV.fn 166 [],AV.fn 167 []] [] (.d (D.b r)) []:=by
 refine oK Tryz.f165 ⟨rfl,?_⟩;unfold AW at h;refine⟨a0.length,X10 _,?_⟩;revert h;refine AG (fun _=>⟨y2 a0::dd 38 ([]),nn 39 ([])⟩) ?_ ?_
 ·intro k1 h;revert h;refine Ac 9 3 JAF.toD rfl (fun i2 _=>⟨y2 a0::AV.fn 166 []::AV.fn 167 []::dd 6 (y2 a0::yi (a0.length:Int)::yi (i2:Int)::dd 27 ([])),nn 39 ([])⟩) ?_ ?_ ?_
  ·exact wk
  ·rintro _ K3 h;(conv=>whnf);refine .go ?_;(conv=>whnf);refine BI Cb ?_;exact AA wk h
  rintro next4 i2 x5 _ K3 hii2 hxi2 hwi2 h hK6;(conv=>whnf);refine .go ?_;(conv=>whnf);refine BD (CQ hii2) ?_;(conv=>whnf);refine .go ?_;refine⟨BF (f:=JAF.toD) hii2,JAF.toD x5,hxi2,rfl,?_⟩;revert h;refine AG (fun v7=>⟨y2 a0::AV.fn 166 []::AV.fn 167 []::dd 6 (y2 a0::yi (a0.length:Int)::yi (i2:Int)::dd 22 (yb v7::dd 4 ([]))),nn 39 ([])⟩) ?_ ?_
  ·intro k8 h;(conv=>whnf);refine .inl (dO ?_);obtain⟨v9,g10,h⟩:=AB h;refine⟨_,_,Jh g10,.inl rfl,?_⟩;refine sJ h ?_ ?_<;>intro h
   ·(conv=>whnf);refine cO ?_;exact AA wk h
   refine sJ h ?_ ?_<;>intro h
   ·refine⟨_,rfl,?_⟩;obtain⟨v11,g12,h⟩:=AB h;refine⟨Ah (f:=JAF.toD) g12,JAF.toD v11,Aj (f:=JAF.toD) g12,rfl,?_⟩;obtain⟨v13,g14,h⟩:=AB h;refine⟨_,_,IP g14,.inl rfl,?_⟩;(conv=>whnf);refine cO ?_;exact AA wk h
   (conv=>whnf);refine cO ?_;exact AA wk h
  rintro v7 h;(conv=>whnf);refine .go ?_;refine sJ h ?_ ?_<;>intro h
  ·cases h;exact⟨rfl,rfl⟩
  refine⟨_,hwi2,?_⟩;exact hK6 _ _ wk h
 rintro _ h;refine⟨a0.length,X10 _,?_⟩;cases h;exact⟨rfl,rfl⟩
theorem EE {a0:List JAF}{r:Bool}(h:Bd a0=some r):yC wl 141 [AV.d (D.l 3 JAF.toD a0)] [] (.d (D.b r)) []:=by
 refine oK Tryz.f141 ⟨rfl,?_⟩;unfold Bd at h;obtain⟨v1,g2,h⟩:=AB h;refine⟨_,_,some [],BY g2,?_⟩;cases h;exact⟨rfl,rfl⟩
theorem FD {a0:Int}{r:Bool}(h:BV a0=some r):yC wl 116 [AV.d (D.i a0)] [] (.d (D.b r)) []:=by
 refine oK Tryz.f116 ⟨rfl,?_⟩;unfold BV at h;revert h;refine AG (fun v1=>⟨X::X::yb v1::dd 12 ([]),nn 15 ([])⟩) ?_ ?_
 ·intro k2 h;obtain⟨v3,g4,h⟩:=AB h;refine⟨_,BX (ek:=D.i) (ev:=D.i) (l:=Bo) (k:=a0) BL,D.i v3,D7 (z:=0) rfl g4,_,rfl,?_⟩;refine sJ h (fun h=>?_) fun h=>AA wk h;exact sJ h (fun h=>AA wk h) fun h=>AA wk h
 rintro v1 h;cases h;exact⟨rfl,rfl⟩
theorem Hn {a0:List JAA}{r:Bool}(h:Db a0=some r):yC wl 142 [AV.d (D.l 3 JAA.toD a0)] [] (.d (D.b r)) []:=by
 refine oK Tryz.f142 ⟨rfl,?_⟩;unfold Db at h;refine⟨a0.length,X10 _,?_⟩;revert h;refine AG (fun _=>⟨y4 a0::dd 51 ([]),nn 52 ([])⟩) ?_ ?_
 ·intro k1 h;revert h;refine Ac 5 3 JAA.toD rfl (fun i2 _=>⟨y4 a0::dd 4 (y4 a0::yi (a0.length:Int)::yi (i2:Int)::dd 44 ([])),nn 52 ([])⟩) ?_ ?_ ?_
  ·exact wk
  ·rintro _ K3 h;(conv=>whnf);refine .go ?_;(conv=>whnf);refine BI Cb ?_;exact AA wk h
  rintro next4 i2 x5 _ K3 hii2 hxi2 hwi2 h hK6;(conv=>whnf);refine .go ?_;(conv=>whnf);refine BD (CQ hii2) ?_;(conv=>whnf);refine .go ?_;refine⟨BF (f:=JAA.toD) hii2,JAA.toD x5,hxi2,rfl,?_⟩;revert h;refine AG (fun v7=>⟨y4 a0::dd 4 (y4 a0::yi (a0.length:Int)::yi (i2:Int)::dd 39 (yb v7::dd 4 ([]))),nn 52 ([])⟩) ?_ ?_
  ·intro k8 h;(conv=>whnf);refine .inl (dO ?_);obtain⟨v9,g10,h⟩:=AB h;refine⟨_,_,FD g10,.inl rfl,?_⟩;refine sJ h ?_ ?_<;>intro h
   ·(conv=>whnf);refine cO ?_;exact AA wk h
   obtain⟨v11,g12,h⟩:=AB h;refine⟨_,_,Bl g12,.inl rfl,?_⟩;refine sJ h ?_ ?_<;>intro h
   ·(conv=>whnf);refine cO ?_;exact AA wk h
   refine sJ h ?_ ?_<;>intro h
   ·(conv=>whnf);refine cO ?_;exact AA wk h
   refine⟨x5.Data.length,X10 _,?_⟩;refine sJ h ?_ ?_<;>intro h
   ·(conv=>whnf);refine cO ?_;exact AA wk h
   refine sJ h ?_ ?_<;>intro h
   ·refine⟨_,rfl,?_⟩;obtain⟨v13,g14,h⟩:=AB h;refine⟨Ah (f:=JAA.toD) g14,JAA.toD v13,Aj (f:=JAA.toD) g14,rfl,?_⟩;(conv=>whnf);refine cO ?_;exact AA wk h
   (conv=>whnf);refine cO ?_;exact AA wk h
  rintro v7 h;(conv=>whnf);refine .go ?_;refine sJ h ?_ ?_<;>intro h
  ·cases h;exact⟨rfl,rfl⟩
  refine⟨_,hwi2,?_⟩;exact hK6 _ _ wk h
 rintro _ h;refine⟨a0.length,X10 _,?_⟩;cases h;exact⟨rfl,rfl⟩
theorem IC {a0:JAC}{r:Bool}(h:DI a0=some r):yC wl 105 [AV.d (JAC.toD a0)] [] (.d (D.b r)) []:=by
 refine oK Tryz.f105 ⟨rfl,?_⟩;unfold DI at h;revert h;refine AG (fun v1=>⟨X::X::yb v1::dd 48 ([]),nn 51 ([])⟩) ?_ ?_
 ·intro k2 h;obtain⟨v3,g4,h⟩:=AB h;refine⟨_,_,some [],Bl g4,?_⟩;refine sJ h (fun h=>?_) fun h=>AA wk h;obtain⟨v5,g6,h⟩:=AB h;refine⟨_,_,some [],Jx g6,?_⟩;refine sJ h (fun h=>?_) fun h=>AA wk h;obtain⟨v7,g8,h⟩:=AB h;refine⟨_,_,some [],G5 g8,?_⟩;refine sJ h (fun h=>?_) fun h=>AA wk h;obtain⟨v9,g10,h⟩:=AB h;refine⟨_,_,some [],Bl g10,?_⟩;refine sJ h (fun h=>?_) fun h=>AA wk h;obtain⟨v11,g12,h⟩:=AB h;refine⟨_,_,some [],Bl g12,?_⟩;refine sJ h (fun h=>?_) fun h=>AA wk h;refine sJ h ?_ ?_<;>intro h
  ·obtain⟨v13,g14,h⟩:=AB h;refine⟨_,_,some [],F5 g14,?_⟩;refine sJ h (fun h=>?_) fun h=>AA wk h;obtain⟨v15,g16,h⟩:=AB h;refine⟨_,_,some [],EE g16,?_⟩;refine sJ h (fun h=>?_) fun h=>AA wk h;obtain⟨v17,g18,h⟩:=AB h;refine⟨_,_,some [],Hn g18,?_⟩;exact AA wk h
  obtain⟨v19,g20,h⟩:=AB h;refine⟨_,_,some [],Gn g20,?_⟩;refine sJ h (fun h=>?_) fun h=>AA wk h;obtain⟨v21,g22,h⟩:=AB h;refine⟨_,_,some [],F5 g22,?_⟩;refine sJ h (fun h=>?_) fun h=>AA wk h;obtain⟨v23,g24,h⟩:=AB h;refine⟨_,_,some [],EE g24,?_⟩;refine sJ h (fun h=>?_) fun h=>AA wk h;obtain⟨v25,g26,h⟩:=AB h;refine⟨_,_,some [],Hn g26,?_⟩;exact AA wk h
 rintro v1 h;cases h;exact⟨rfl,rfl⟩
theorem FW {a0:List UInt8}{r:(List UInt8)}(h:A7 a0=some r):yC wl 119 [AV.d (D.l 1 D.u8 a0)] [] (.d (D.l 1 D.u8 r)) []:=by
 refine oK Tryz.f119 ⟨rfl,?_⟩;unfold A7 at h;refine⟨?_,fun hz=>?_⟩
 ·(conv=>whnf);refine .go ?_;obtain⟨v1,g2,h⟩:=AB h;refine⟨rfl,Ab (f:=D.u8) (g:=D.u8) g2,_,Ag (f:=D.u8) g2,?_⟩;(conv=>whnf);refine .inl ?_;(conv=>whnf);refine .inl ?_;refine⟨rfl,?_⟩;cases h;exact⟨rfl,rfl⟩
 obtain rfl:a0=[]:=(by simpa using hz);replace h:=bE h;(conv=>whnf);refine .go ?_;(conv=>whnf);refine .inl ?_;cases h;exact⟨rfl,rfl⟩
end Go.AX.Q19
end
section
namespace Go.AX
open Go.Proofs Go.Sort Go.Shelf Go.RowKit
theorem YI {vals:Array Value}{v u:Value}(hs:vals.size=2)(h:vals.getD 0 undef=v)(h':vals.getD 1 undef=u):vals=#[v,u]:=by
 match vals,hs with
 | ⟨[a,b]⟩,_=>
  simp at h h'
  rw[h,h']
theorem HV {α:Type}[Inhabited α](enc:α->List Value)(k:Nat)(w:World)(blk off n:Nat)(d:Array α)(os:Array Obj)(hb:blk<w.heap.size) :
  (∀b,b<w.heap.size->b≠blk->(sortWorldK enc k w blk off n d os).heap[b]?=w.heap[b]?)/\w.heap.size<=(sortWorldK enc k w blk off n d os).heap.size/\
  (∀vs e fr,w.heap[blk]?=some (.cells vs e fr)->(sortWorldK enc k w blk off n d os).heap[blk]?=some (.cells (putCells id off (flatK enc k d) vs) e fr))/\
  (sortWorldK enc k w blk off n d os).os=w.os/\(sortWorldK enc k w blk off n d os).output=w.output/\(sortWorldK enc k w blk off n d os).tape=w.tape/\w.drawn<=(sortWorldK enc k w blk off n d os).drawn:=by
 have hh:(sortWorldK enc k w blk off n d os).heap=(w.heap.modify blk (onCells (putCells id off (flatK enc k d))))++os:=rfl
 refine⟨fun b h1 h2=>?_,?_,fun vs e fr h=>?_,rfl,rfl,rfl,Nat.le_add_right _ _⟩
 ·rw[hh,Array.getElem?_append_left (by simpa using h1),Array.getElem?_modify,if_neg (Ne.symm h2)]
 ·rw[hh];simp
 rw[hh,Array.getElem?_append_left (by simpa using hb),Array.getElem?_modify,if_pos rfl,h]
 rfl
theorem ch {W w':World}(hp :∀b,b<W.heap.size->w'.heap[b]?=W.heap[b]?)(sz:W.heap.size<=w'.heap.size)(os:w'.os=W.os)(out:w'.output=W.output)(tape:w'.tape=W.tape)(dr:W.drawn<=w'.drawn) :
  ∃q os',w'=grow (W.drewN q) os':=by
 refine⟨w'.drawn-W.drawn,w'.heap.extract W.heap.size w'.heap.size,?_⟩
 obtain⟨h1,t1,d1,o1,u1⟩:=w'
 obtain⟨h2,t2,d2,o2,u2⟩:=W
 simp only at hp sz os out tape dr
 subst os out tape
 have hheap:h1=h2++h1.extract h2.size h1.size:=by
  apply Array.ext_getElem?
  intro i
  by_cases hi:i<h2.size
  ·rw[Array.getElem?_append_left hi];exact hp i hi
  rw[Array.getElem?_append_right (by omega),Array.getElem?_extract]
  by_cases hi2:i<h1.size
  ·rw[if_pos (by omega),show h2.size+(i-h2.size)=i by omega]
  rw[if_neg (by omega),Array.getElem?_eq_none (by omega)]
 have hd:d1=d2+(d1-d2):=by omega
 unfold grow World.drewN
 simp only
 congr 1
theorem RY {wl:WL}{P:Program}{ρ:Ren}{X:Type}{f:X->D}{cmp:X->X->Option Int}{g k e:Nat}(L:SlLaysF0.n6 P ρ)(hf:eF P (ρ.f 6))(aE :∀w,(isAgg (ρ.t 24)).run P w=.ok true w)(zE :∀w,(Go.sizeOf (ρ.t 24)).run P w=.ok k w)
  (eg :∀args w,(callFunc g args).run P w=.ok (.enter g args) w) (hagg :∀x,(f x).isAgg=true) (hcmp :∀{a b r},cmp a b=some r->CallsOK wl.low P g [.d (f a),.d (f b)] [] (.i r) [])
  {l r:List X} (h:EO cmp l=some r):CallsOK wl P (ρ.f 6) [.own 0 (List.map f l).length,.fn g []] [.row e k (List.map f l) .no] (.tup []) [.row e k (List.map f r) .no]:=by
 refine⟨hf,fun w S φ gb hg vals hs hr hn m=>?_⟩
 have r0:=(hr 0 (by simp)).1
 have r1:=(hr 1 (by simp)).1
 simp only[List.getElem_cons_zero,List.getElem_cons_succ] at r0 r1
 have hv:=YI hs rfl rfl
 generalize vals.getD 0 undef=v0 at r0 hv
 generalize vals.getD 1 undef=v1 at r1 hv
 cases r1 with | fn _ _ vs1 _ hs1 _ _=>
 obtain rfl:vs1=#[]:=Array.eq_empty_of_size_eq_zero (by simpa using hs1)
 cases r0 with | own _ _ _ kk c a0 hv0 hk0 h1 hb=>
 have hob:ofL [OB.row e k (List.map f l) .no] 0=some (.row e k (List.map f l) .no):=rfl
 obtain⟨_,hown⟩:=h1 _ _ _ _ hob
 have hown:=hown rfl
 have hmem:=m.obj 0 _ hob
 obtain⟨g0,g1,g2,g3⟩:=hmem
 have hol :∀r',ofL [OB.row e k (List.map f r') .no]=upd (ofL [OB.row e k (List.map f l) .no]) 0 (some (.row e k (List.map f r') .no)):=by
  intro r'
  funext q
  match q with
  | 0=>simp[ofL]
  | q+1=>simp[ofL,upd]
 by_cases hl:0<l.length
 rotate_left
 ·
  have hl0:l=[]:=List.eq_nil_of_length_eq_zero (by omega)
  subst hl0
  obtain⟨hp,_⟩:=MK h
  obtain rfl:r=[]:=hp.eq_nil
  obtain⟨p,cap,hvp⟩ :∃p cap,v0=.slice p 0 cap:=by rw[hv0,hk0];exact⟨_,_,rfl⟩
  rw[hv,hvp]
  refine (AnyF.slices_SortFunc_none L p cap _ w).mono fun e' w' ⟨he,hw⟩=>⟨_,he,S,φ,hw ▸ m,hw ▸ .refl _ _ _ _,.tup [] #[] (fun _=>undef) rfl (fun i hi=>by simp at hi) (fun i hi=>by simp at hi),fun q hq=>by simp[AV.refs,AV.refs.refsL] at hq⟩
 rcases g3 with ⟨_,hnil⟩|⟨b,cap,vs,f0,f1,f2,f3,f4,f5,f6,f7,f8⟩
 ·simp at hnil
  subst hnil
  simp at hl
 obtain⟨hlen,hget⟩:=TJ h hl
 have hsw:VC cmp l=true:=by
  unfold EO at h
  split at h
  ·assumption
  simp at h
 obtain⟨hpsz,hpperm,_⟩:=Om hsw hl
 have hv0':v0=.slice (some ⟨b,cap.2,none⟩) l.length cap.1:=by
  rcases hown with ⟨hφ0,_⟩|⟨b',cap',hφ0,hvv⟩
  ·rw[f1] at hφ0;simp at hφ0
  rw[f1] at hφ0
  simp only[X24,X26] at hφ0
  obtain⟨rfl,rfl⟩:=hφ0
  rw[hvv];simp
 have hbl:=(m.ow 0 b cap (by simp[ofL]) f1).1
 let ix:Nat->Nat:=fun i=>min i (l.length-1)
 have hix :∀i,ix i<l.length:=fun i=>by simp only[ix];omega
 let enc:Nat->List Value:=fun i=>(List.range k).map fun j=>f0 (ix i) j
 have hencl :∀x,(enc x).length=k:=fun x=>by simp[enc]
 have helem :∀i (hi:i<l.length),(f l[i]).cells.length=k:=fun i hi=>by have:=g1 i (by simpa using hi);simpa using this
 have hrep :∀i (hi:i<l.length) j (hj:j<k),∃hj':j<(f l[i]).cells.length,RepD S w ((f l[i]).cells[j]'hj') (f0 i j)/\((f l[i]).cells[j]'hj').isAgg=false:=by
  intro i hi j hj
  have hj':j<(f l[i]).cells.length:=by rw[helem i hi];exact hj
  refine⟨hj',?_,?_⟩
  ·have:=f7 i (by simpa using hi) j (by simpa using hj');simpa using this
  have:=g2 i (by simpa using hi) j (by simpa using hj');simpa using this
 have hone :∀x,∀v∈enc x,v.oneCell'=true:=by
  intro x v hv
  obtain⟨j,hj,rfl⟩:=List.mem_map.1 hv
  obtain⟨hj',h2,h3⟩:=hrep (ix x) (hix x) j (by simpa using hj)
  exact h2.one h3
 have hflat :∀(d:Array Nat) t,t<d.size*k->(flatK enc k d)[t]! = f0 (ix d[t/k]!) (t%k):=by
  intro d t ht
  have hk0:0<k:=g0
  rw[get_flatK _ _ _ _ ht]
  have:=Nat.mod_lt t hk0
  simp[enc,this]
 have hH:HoldsK enc k w b cap.2 (Array.range l.length):=by
  intro t ht
  have ht':t<l.length*k:=by simpa using ht
  have hk0:0<k:=g0
  have hq:t/k<l.length:=Nat.div_lt_of_lt_mul (by rwa [Nat.mul_comm])
  rw[hflat _ t (by simpa using ht')]
  have h1:(Array.range l.length)[t/k]! = t/k:=by simp[hq]
  have h2:ix (t/k)=t/k:=by simp only[ix];omega
  have h3:=f6 (t/k) (t%k) (by simpa using hq) (Nat.mod_lt t hk0)
  have h4:t/k*k+t%k=t:=by rw[Nat.mul_comm];exact Nat.div_add_mod t k
  rw[h4] at h3
  rw[h1,h2]
  refine⟨?_,?_⟩
  ·simp only[World.cell?,f2,id]
   exact h3
  simp[World.frozen?,f2]
 have hkeep :∀(n:Nat) (d:Array Nat) (os:Array Obj),NN S w S (sortWorldK enc k w b cap.2 n d os):=by
  intro n d os b' o hS
  obtain⟨h1,_⟩:=HV enc k w b cap.2 n d os hbl
  have hne:b'≠b:=fun he=>f8.1 o (by simp) (he ▸ hS)
  exact⟨hS,C3 (h1 b' (m.bS b' o hS) hne) o⟩
 have hrepE :∀{W:World},NN S w S W->∀i (hi:i<l.length),RepD S W (f l[i]) (.agg ((List.range k).map fun j=>f0 i j).toArray):=by
  intro W hK i hi
  have ha:=hagg l[i]
  cases hfl:f l[i] with
  | agg cs=>
   have hcs:cs.length=k:=by have:=helem i hi;rw[hfl] at this;exact this
   refine .agg cs _ (fun j=>f0 i j) (by simp[hcs]) (fun j hj=>by simp[hcs ▸ hj]) (fun j hj=>?_) fun j hj=>?_
   ·obtain⟨hj',_,h3⟩:=hrep i hi j (hcs ▸ hj)
    simp only[hfl,D.cells] at h3
    exact h3
   obtain⟨hj',h2,_⟩:=hrep i hi j (hcs ▸ hj)
   simp only[hfl,D.cells] at h2
   exact h2.mono hK
  | val v=>rw[hfl] at ha;simp[D.isAgg] at ha
  | nil sz=>rw[hfl] at ha;simp[D.isAgg] at ha
  | lst sz es=>rw[hfl] at ha;simp[D.isAgg] at ha
 have hfull :∀x,∃(hi:ix x<l.length),enc x=(List.range k).map fun j=>f0 (ix x) j:=fun x=>⟨hix x,rfl⟩
 have hlays:CmpLays P g #[] enc k (cfI cmp l) b cap.2 (Array.range l.length).size w:=by
  intro q os dk hdk x y
  obtain⟨w1,w2,w3,w4,w5,w6,w7⟩:=HV enc k w b cap.2 q dk os hbl
  have hK:=hkeep q dk os
  generalize hW:sortWorldK enc k w b cap.2 q dk os=W at *
  have hx:=hix x
  have hy:=hix y
  obtain⟨c1,_⟩:=Ov hsw
  obtain⟨rr,hrr⟩:=c1 l[ix x] (List.getElem_mem hx) l[ix y] (List.getElem_mem hy)
  have hcf:cfI cmp l x y=rr:=by
   have e1:ixL l x=some l[ix x]:=X15 hx
   have e2:ixL l y=some l[ix y]:=X15 hy
   unfold cfI
   rw[e1,e2]
   simp[hrr]
  have hn0 :∀r,ofL [] r=none:=fun r=>by simp[ofL]
  have hgW:GlobOK wl.low gb (Iq (fun _:Nat=>(none:Option (Nat×Rp))) ([]:List OB).length) S W:=by
   have e :∀b',gb b'->W.heap[b']?=w.heap[b']?:=fun b' hb'=>w1 b' (hg.lt b' hb') fun he=>hg.pb b' hb' ⟨0,cap,by simp,he ▸ f1⟩
   refine⟨wl.ext _ _ _ e hg.gf,fun b' hb'=>Nat.lt_of_lt_of_le (hg.lt b' hb') w2,?_,fun b' o hb' hc=>hg.st b' o hb' ?_⟩
   ·rintro b' hb' ⟨r,c,h1,_⟩
    simp at h1
   rw[<- C3 (e b' hb') o]
   exact hc
  refine ((hcmp hrr).2 W S (fun _=>none) gb hgW (#[.agg (enc x).toArray,.agg (enc y).toArray]++#[]) (by simp) (fun i hi=>?_) (fun _ _=>rfl) ⟨fun r o ho=>by rw[hn0] at ho;simp at ho,fun r _ _ _ _ hr=>absurd (hn0 r) hr,fun r o ho=>by rw[hn0] at ho;simp at ho,fun _ _ h=>h,fun _ _ _=>rfl,fun b' o hS=>Nat.lt_of_lt_of_le (m.bS b' o hS) w2,fun _ _ h _ _=>h,fun _ _ _=>rfl,Nat.le_refl _,fun r _ _ hr=>absurd (hn0 r) hr,⟨rfl,rfl,rfl,.inr (Nat.le_refl _)⟩⟩).mono fun e' w' he=>?_
  ·refine⟨?_,?_⟩
   ·match i,hi with
    | 0,_=>exact .d _ _ (hrepE hK (ix x) hx)
    | 1,_=>exact .d _ _ (hrepE hK (ix y) hy)
   match i,hi with
   | 0,_=>exact BC _ _
   | 1,_=>exact BC _ _
  obtain⟨v,rfl,S',φ',mm,_,hvv,_⟩:=he
  refine⟨by rw[hvv.int,hcf],?_⟩
  have hpb :∀b',¬ Iq (fun _:Nat=>(none:Option (Nat×Rp))) ([]:List OB).length b':=by rintro b' ⟨r,c,h1,_⟩;simp at h1
  refine ch (fun b' hb'=>mm.fr b' hb' (hpb b')) mm.sz mm.os.1 mm.os.2.1 mm.os.2.2.1 ?_
  rcases mm.os.2.2.2 with h | h
  ·exact h.elim
  exact h
 have hc:=AnyQ.slices_SortFunc_eq L k aE zE enc hencl hone (cfI cmp l) (X7 hsw hl) g #[] b cap.2 cap.1 (Array.range l.length) w eg hlays hH hbl (by
  have:=(Ov hsw).2.2.2.2
  simp;omega)
 rw[hv,hv0']
 have hsz0:(Array.range l.length).size=l.length:=by simp
 rw[hsz0] at hc
 refine hc.mono fun e' w' ⟨he,n,os,hw⟩=>?_
 have hd:pdq (ltOf (cfI cmp l)) (Array.range l.length) 0 l.length (Lib.bitLen l.length) true true=Gy cmp l:=rfl
 rw[hd] at hw
 obtain⟨w1,w2,w3,w4,w5,w6,w7⟩:=HV enc k w b cap.2 n (Gy cmp l) os hbl
 rw[<- hw] at w1 w2 w3 w4 w5 w6 w7
 have hcur:=w3 _ _ _ f2
 have hr' :∀i (hi:i<r.length),∃(hp:(Gy cmp l)[i]!<l.length),r[i]=l[(Gy cmp l)[i]!]:=by
  intro i hi
  obtain⟨p1,p2⟩:=hget i (by omega)
  rw[X15 hi,X15 p1] at p2
  exact⟨p1,X25 p2⟩
 obtain⟨m2,k2⟩:=m.rowSet (es':=List.map f r) (cur':=putCells id cap.2 (flatK enc k (Gy cmp l)) vs) (w':=w') hob f1 f2 (by simp[hlen])
  (fun i hi=>by
   have hi':i<r.length:=by simpa using hi
   obtain⟨hp,he⟩:=hr' i hi'
   simp only[List.getElem_map,he]
   exact helem _ hp)
  (fun i hi j hj=>by
   have hi':i<r.length:=by simpa using hi
   obtain⟨hp,he⟩:=hr' i hi'
   simp only[List.getElem_map,he] at hj ⊢
   obtain⟨hj',_,h3⟩:=hrep _ hp j (by rw[helem _ hp] at hj;exact hj)
   exact h3)
  hcur (by simp[putCells]) (fun b' h1 h2=>w1 b' h1 h2) w2 ⟨w4,w5,w6,w7⟩ (fun i j=>f0 (Gy cmp l)[i]! j)
  (fun i j hi hj=>by
   have hi':i<r.length:=by simpa using hi
   obtain⟨hp,he⟩:=hr' i hi'
   have hil:i<l.length:=by omega
   have hik:i*k+j<l.length*k:=by
    have:=X31 k (show i+1<=l.length from hil)
    rw[X32,Nat.one_mul] at this
    omega
   have hbig:cap.2+(i*k+j)<vs.size:=by
    have h3:l.length<=cap.1:=by simpa using f3
    have:=X31 k h3
    omega
   have e1:(i*k+j)/k=i:=by rw[Nat.mul_comm,Nat.mul_add_div g0,Nat.div_eq_of_lt hj,Nat.add_zero]
   have e2:(i*k+j)%k=j:=by rw[Nat.mul_comm,Nat.mul_add_mod,Nat.mod_eq_of_lt hj]
   have hfl:=hflat (Gy cmp l) (i*k+j) (by rw[hpsz];exact hik)
   rw[e1,e2] at hfl
   have hixx:ix (Gy cmp l)[i]! = (Gy cmp l)[i]!:=by simp only[ix];omega
   rw[hixx] at hfl
   simp only[putCells,Array.getElem?_mapIdx,Array.getElem?_eq_getElem hbig,Option.map_some]
   rw[if_pos ⟨by omega,by rw[size_flatK,hpsz];omega⟩,show cap.2+(i*k+j)-cap.2=i*k+j by omega,hfl]
   rfl)
  (fun i hi j hj=>by
   have hi':i<r.length:=by simpa using hi
   obtain⟨hp,he⟩:=hr' i hi'
   simp only[List.getElem_map,he] at hj ⊢
   obtain⟨hj',h2,_⟩:=hrep _ hp j (by rw[helem _ hp] at hj;exact hj)
   exact h2)
 rw[<- hol r] at m2 k2
 exact⟨_,he,S,φ,m2,k2,.tup [] #[] (fun _=>undef) rfl (fun i hi=>by simp at hi) (fun i hi=>by simp at hi),fun q hq=>by simp[AV.refs,AV.refs.refsL] at hq⟩
theorem Vg {α:Type}[Inhabited α](enc:α->Value)(w:World)(blk off n:Nat)(d:Array α)(os:Array Obj)(hb:blk<w.heap.size) :
  (∀b,b<w.heap.size->b≠blk->(grow (putRow enc (Sort.ahead w n) blk off d) os).heap[b]?=w.heap[b]?)/\w.heap.size<=(grow (putRow enc (Sort.ahead w n) blk off d) os).heap.size/\
  (∀vs e fr,w.heap[blk]?=some (.cells vs e fr)->(grow (putRow enc (Sort.ahead w n) blk off d) os).heap[blk]?=some (.cells (putCells enc off d vs) e fr))/\
  (grow (putRow enc (Sort.ahead w n) blk off d) os).os=w.os/\(grow (putRow enc (Sort.ahead w n) blk off d) os).output=w.output/\(grow (putRow enc (Sort.ahead w n) blk off d) os).tape=w.tape/\w.drawn<=(grow (putRow enc (Sort.ahead w n) blk off d) os).drawn:=by
 have hh:(grow (putRow enc (Sort.ahead w n) blk off d) os).heap=(w.heap.modify blk (onCells (putCells enc off d)))++os:=rfl
 refine⟨fun b h1 h2=>?_,?_,fun vs e fr h=>?_,rfl,rfl,rfl,Nat.le_add_right _ _⟩
 ·rw[hh,Array.getElem?_append_left (by simpa using h1),Array.getElem?_modify,if_neg (Ne.symm h2)]
 ·rw[hh];simp
 rw[hh,Array.getElem?_append_left (by simpa using hb),Array.getElem?_modify,if_pos rfl,h]
 rfl
theorem ai {wl:WL}{P:Program}{ρ:Ren}{e:Nat}(L:SlLaysM.n5 P ρ)(hf:eF P (ρ.f 5)){l r:List Int}(h:Lm l=some r) :
  CallsOK wl P (ρ.f 5) [.own 0 (List.map D.i l).length] [.row e 1 (List.map D.i l) .no] (.tup []) [.row e 1 (List.map D.i r) .no]:=by
 unfold Lm at h
 split at h
 rotate_left
 ·simp at h
 rename_i hsz
 obtain rfl:=X25 h
 refine⟨hf,fun w S φ gb hg vals hs hr hn m=>?_⟩
 have r0:=(hr 0 (by simp)).1
 simp only[List.getElem_cons_zero] at r0
 generalize hv:vals.getD 0 undef=v0 at r0
 have hv:vals=#[v0]:=by
  match vals,hs with
  | ⟨[a]⟩,_=>simp at hv;rw[hv]
 cases r0 with | own _ _ _ kk c a0 hv0 hk0 h1 hb=>
 have hob:ofL [OB.row e 1 (List.map D.i l) .no] 0=some (.row e 1 (List.map D.i l) .no):=rfl
 obtain⟨_,hown⟩:=h1 _ _ _ _ hob
 have hown:=hown rfl
 obtain⟨g0,g1,g2,g3⟩:=m.obj 0 _ hob
 have hol :∀r',ofL [OB.row e 1 (List.map D.i r') .no]=upd (ofL [OB.row e 1 (List.map D.i l) .no]) 0 (some (.row e 1 (List.map D.i r') .no)):=by
  intro r'
  funext q
  match q with
  | 0=>simp[ofL]
  | q+1=>simp[ofL,upd]
 have none :∀(p:Option Addr) (cap:Nat),v0=.slice p 0 cap->l=[]->Calls P (ρ.f 5) vals w fun e' w'=>∃v,e'=.returned v/\∃S' φ',Mem ⟨w,S,Iq φ ([OB.row e 1 (List.map D.i l) .no]).length,wl,gb,hg⟩ w' S' φ' (ofL [OB.row e 1 (List.map D.i (l.mergeSort fun x y=>decide (x<=y))) .no])/\
   Kept w S φ (ofL [OB.row e 1 (List.map D.i l) .no]) w' S' φ' (ofL [OB.row e 1 (List.map D.i (l.mergeSort fun x y=>decide (x<=y))) .no])/\RepA S' w' φ' (ofL [OB.row e 1 (List.map D.i (l.mergeSort fun x y=>decide (x<=y))) .no]) (.tup []) v/\Closed (ofL [OB.row e 1 (List.map D.i (l.mergeSort fun x y=>decide (x<=y))) .no]) (.tup []):=by
  intro p cap hp hl
  subst hl
  rw[hv,hp]
  refine (AnyM.slices_Sort_int_none L p cap w).mono fun e' w' ⟨he,hw⟩=>?_
  subst hw
  refine⟨_,he,S,φ,by simpa using m,by simpa using .refl _ _ _ _,.tup [] #[] (fun _=>undef) rfl (fun i hi=>by simp at hi) (fun i hi=>by simp at hi),fun q hq=>by simp[AV.refs,AV.refs.refsL] at hq⟩
 rcases hown with ⟨a1,a2,a3,a4⟩|⟨b,cap,a1,a4⟩
 ·exact none _ _ a4 (List.eq_nil_of_length_eq_zero (by simpa using a2))
 rcases g3 with ⟨f1,_⟩|⟨b',cap',vs,f0,f1,f2,f3,f4,f5,f6,f7,f8⟩
 ·rw[a1] at f1;simp at f1
 rw[a1] at f1
 simp only[X24,X26] at f1
 obtain⟨rfl,rfl⟩:=f1
 have hbl:b<w.heap.size:=(m.ow 0 b cap (by simp[ofL]) a1).1
 have hcell :∀i (hi:i<l.length),f0 i 0=.int .i64 l[i]:=by
  intro i hi
  have:=f7 i (by simpa using hi) 0 (by simp[D.cells])
  simp only[List.getElem_map,D.cells,List.getElem_cons_zero] at this
  revert this
  generalize f0 i 0=u
  intro h
  cases h
  rfl
 have hH:Holds (Value.int .i64) w b cap.2 l.toArray:=by
  intro j hj
  have hj':j<l.length:=by simpa using hj
  have h6:=f6 j 0 (by simpa using hj') (by decide)
  rw[hcell j hj'] at h6
  have hb2:w.cell? ⟨b,cap.2+j,Option.none⟩=some (.int .i64 l[j]):=by
   have:cellAt w b (cap.2+j)=some (.int .i64 l[j]):=by rw[BQ f2];simpa using h6
   exact this
  refine⟨by simpa[hj'] using hb2,?_⟩
  simp[World.frozen?,f2]
 rw[hv,a4]
 have hc:=AnyM.slices_Sort_int L b cap.2 cap.1 l w hH hbl hsz
 have hlen:(List.map D.i l).length=l.length:=by simp
 rw[hlen]
 refine hc.mono fun e' w' ⟨he,n,os,hw⟩=>?_
 obtain⟨w1,w2,w3,w4,w5,w6,w7⟩:=Vg (Value.int .i64) w b cap.2 n (l.mergeSort fun x y=>decide (x<=y)).toArray os hbl
 rw[<- hw] at w1 w2 w3 w4 w5 w6 w7
 obtain⟨m2,k2⟩:=m.rowSet (es':=List.map D.i (l.mergeSort fun x y=>decide (x<=y))) (w':=w') hob a1 f2 (by simp)
  (fun i hi=>by simp[D.cells]) (fun i hi j hj=>by
   have h0:j=0:=by simp[D.cells] at hj;exact hj
   subst h0
   simp[D.cells,D.isAgg]) (w3 _ _ _ f2) (by simp[putCells]) (fun b' h1 h2=>w1 b' h1 h2) w2 ⟨w4,w5,w6,w7⟩ (fun i _=>.int .i64 ((l.mergeSort fun x y=>decide (x<=y)).getD i 0))
  (fun i j hi hj=>by
   have h0:j=0:=by omega
   subst h0
   have hi':i<l.length:=by simpa using hi
   have hbig:cap.2+i<vs.size:=by
    have h3:l.length<=cap.1:=by simpa using f3
    omega
   simp only[putCells,Nat.mul_one,Nat.add_zero,Array.getElem?_mapIdx,Array.getElem?_eq_getElem hbig,Option.map_some]
   rw[if_pos ⟨by omega,by simp;omega⟩,show cap.2+i-cap.2=i by omega]
   have hi2:i<(l.mergeSort fun x y=>decide (x<=y)).length:=by simpa using hi'
   simp[hi2])
  (fun i hi j hj=>by
   have h0:j=0:=by simp[D.cells] at hj;exact hj
   subst h0
   have hi2:i<(l.mergeSort fun x y=>decide (x<=y)).length:=by simpa using hi
   simp only[List.getElem_map,D.cells,List.getElem_cons_zero,List.getD_eq_getElem?_getD,X15 hi2,Option.getD_some]
   exact .val _ rfl)
 rw[<- hol] at m2 k2
 exact⟨_,he,S,φ,m2,k2,.tup [] #[] (fun _=>undef) rfl (fun i hi=>by simp at hi) (fun i hi=>by simp at hi),fun q hq=>by simp[AV.refs,AV.refs.refsL] at hq⟩
end Go.AX
end
section
namespace Go.Proofs
open Go.Shelf
def Tryz.l120_ren:Go.Shelf.Ren:=⟨fun | 6=>120 | 15=>150 | 14=>149 | 28=>176 | 29=>177 | 20=>168 | 21=>169 | 22=>170 | 23=>171 | 24=>172 | 25=>173 | 26=>174 | 27=>175 | 46=>183 | 47=>184 | 48=>185 | 49=>186 | 50=>187 | 57=>190 | n=>n,fun | 22=>32 | 24=>88 | 25=>164 | 3=>3 | 39=>67 | 0=>0 | 53=>207 | 55=>27 | 4=>4 | 46=>200 | 45=>199 | 50=>204 | 5=>5 | 9=>9 | 66=>215 | 70=>219 | 76=>222 | 77=>223 | n=>n,fun | n=>n⟩
theorem Tryz.l120:Go.Proofs.SlLaysF0.n6 Tryz.prog Tryz.l120_ren:={
 mixed:=by kernel_rfl
 f6:=⟨Tryz.f120.name,by decide,Tryz.func120.trans (congrArg some (by kernel_rfl))⟩
 f14:=⟨Tryz.f149.name,by decide,Tryz.func149.trans (congrArg some (by kernel_rfl))⟩
 f15:=Tryz.func150.trans (congrArg some (by kernel_rfl))
 f20:=⟨Tryz.f168.name,by decide,Tryz.func168.trans (congrArg some (by kernel_rfl))⟩
 f21:=⟨Tryz.f169.name,by decide,Tryz.func169.trans (congrArg some (by kernel_rfl))⟩
 f22:=⟨Tryz.f170.name,by decide,Tryz.func170.trans (congrArg some (by kernel_rfl))⟩
 f23:=⟨Tryz.f171.name,by decide,Tryz.func171.trans (congrArg some (by kernel_rfl))⟩
 f24:=⟨Tryz.f172.name,by decide,Tryz.func172.trans (congrArg some (by kernel_rfl))⟩
 f25:=⟨Tryz.f173.name,by decide,Tryz.func173.trans (congrArg some (by kernel_rfl))⟩
 f26:=⟨Tryz.f174.name,by decide,Tryz.func174.trans (congrArg some (by kernel_rfl))⟩
 f27:=⟨Tryz.f175.name,by decide,Tryz.func175.trans (congrArg some (by kernel_rfl))⟩
 f28:=Tryz.func176.trans (congrArg some (by kernel_rfl))
 f29:=Tryz.func177.trans (congrArg some (by kernel_rfl))
 f46:=⟨Tryz.f183.name,by decide,Tryz.func183.trans (congrArg some (by kernel_rfl))⟩
 f47:=Tryz.func184.trans (congrArg some (by kernel_rfl))
 f48:=Tryz.func185.trans (congrArg some (by kernel_rfl))
 f49:=⟨Tryz.f186.name,by decide,Tryz.func186.trans (congrArg some (by kernel_rfl))⟩
 f50:=⟨Tryz.f187.name,by decide,Tryz.func187.trans (congrArg some (by kernel_rfl))⟩
 f57:=⟨Tryz.f190.name,by decide,Tryz.func190.trans (congrArg some (by kernel_rfl))⟩
 t0:=Tryz.underlying0
 a0:=Tryz.isAgg0
 z0:=Tryz.sizeOf0
 v0:=Tryz.zeroValue0
 t3:=Tryz.underlying3
 a3:=Tryz.isAgg3
 z3:=Tryz.sizeOf3
 v3:=Tryz.zeroValue3
 t4:=Tryz.underlying4
 a4:=Tryz.isAgg4
 z4:=Tryz.sizeOf4
 v4:=Tryz.zeroValue4
 t5:=Tryz.underlying5
 a5:=Tryz.isAgg5
 z5:=Tryz.sizeOf5
 v5:=Tryz.zeroValue5
 t9:=Tryz.underlying9
 a9:=Tryz.isAgg9
 z9:=Tryz.sizeOf9
 v9:=Tryz.zeroValue9
 t22:=Tryz.underlying32
 a22:=Tryz.isAgg32
 z22:=Tryz.sizeOf32
 v22:=Tryz.zeroValue32
 t25:=Tryz.underlying164
 a25:=Tryz.isAgg164
 z25:=Tryz.sizeOf164
 v25:=Tryz.zeroValue164
 t39:=Tryz.underlying67
 a39:=Tryz.isAgg67
 z39:=Tryz.sizeOf67
 v39:=Tryz.zeroValue67
 t45:=Tryz.underlying199
 a45:=Tryz.isAgg199
 z45:=Tryz.sizeOf199
 v45:=Tryz.zeroValue199
 t46:=Tryz.underlying200
 a46:=Tryz.isAgg200
 z46:=Tryz.sizeOf200
 v46:=Tryz.zeroValue200
 t50:=Tryz.underlying204
 a50:=Tryz.isAgg204
 z50:=Tryz.sizeOf204
 v50:=Tryz.zeroValue204
 t53:=Tryz.underlying207
 a53:=Tryz.isAgg207
 z53:=Tryz.sizeOf207
 v53:=Tryz.zeroValue207
 t55:=Tryz.underlying27
 a55:=Tryz.isAgg27
 z55:=Tryz.sizeOf27
 v55:=Tryz.zeroValue27
 t66:=Tryz.underlying215
 a66:=Tryz.isAgg215
 z66:=Tryz.sizeOf215
 v66:=Tryz.zeroValue215
 t70:=Tryz.underlying219
 a70:=Tryz.isAgg219
 z70:=Tryz.sizeOf219
 v70:=Tryz.zeroValue219
 t76:=Tryz.underlying222
 a76:=Tryz.isAgg222
 z76:=Tryz.sizeOf222
 v76:=Tryz.zeroValue222
 t77:=Tryz.underlying223
 a77:=Tryz.isAgg223
 z77:=Tryz.sizeOf223
 v77:=Tryz.zeroValue223 }
def Tryz.l218_ren:Go.Shelf.Ren:=⟨fun | 5=>218 | 8=>150 | 7=>224 | 19=>176 | 20=>177 | 10=>229 | 11=>230 | 12=>231 | 13=>232 | 14=>233 | 15=>234 | 16=>235 | 17=>236 | 18=>237 | 30=>240 | 31=>184 | 32=>185 | 33=>241 | 34=>242 | 35=>151 | 40=>259 | n=>n,fun | 23=>22 | 25=>3 | 3=>3 | 32=>67 | 22=>22 | 0=>0 | 44=>207 | 46=>27 | 4=>4 | 36=>200 | 35=>199 | 41=>204 | 5=>5 | 9=>9 | 53=>215 | 57=>219 | 63=>222 | 64=>223 | n=>n,fun | n=>n⟩
theorem Tryz.l218:Go.Proofs.SlLaysM.n5 Tryz.prog Tryz.l218_ren:={
 mixed:=by kernel_rfl
 f5:=⟨Tryz.f218.name,by decide,Tryz.func218.trans (congrArg some (by kernel_rfl))⟩
 f7:=⟨Tryz.f224.name,by decide,Tryz.func224.trans (congrArg some (by kernel_rfl))⟩
 f8:=Tryz.func150.trans (congrArg some (by kernel_rfl))
 f10:=⟨Tryz.f229.name,by decide,Tryz.func229.trans (congrArg some (by kernel_rfl))⟩
 f11:=⟨Tryz.f230.name,by decide,Tryz.func230.trans (congrArg some (by kernel_rfl))⟩
 f12:=⟨Tryz.f231.name,by decide,Tryz.func231.trans (congrArg some (by kernel_rfl))⟩
 f13:=⟨Tryz.f232.name,by decide,Tryz.func232.trans (congrArg some (by kernel_rfl))⟩
 f14:=⟨Tryz.f233.name,by decide,Tryz.func233.trans (congrArg some (by kernel_rfl))⟩
 f15:=⟨Tryz.f234.name,by decide,Tryz.func234.trans (congrArg some (by kernel_rfl))⟩
 f16:=⟨Tryz.f235.name,by decide,Tryz.func235.trans (congrArg some (by kernel_rfl))⟩
 f17:=⟨Tryz.f236.name,by decide,Tryz.func236.trans (congrArg some (by kernel_rfl))⟩
 f18:=⟨Tryz.f237.name,by decide,Tryz.func237.trans (congrArg some (by kernel_rfl))⟩
 f19:=Tryz.func176.trans (congrArg some (by kernel_rfl))
 f20:=Tryz.func177.trans (congrArg some (by kernel_rfl))
 f30:=⟨Tryz.f240.name,by decide,Tryz.func240.trans (congrArg some (by kernel_rfl))⟩
 f31:=Tryz.func184.trans (congrArg some (by kernel_rfl))
 f32:=Tryz.func185.trans (congrArg some (by kernel_rfl))
 f33:=⟨Tryz.f241.name,by decide,Tryz.func241.trans (congrArg some (by kernel_rfl))⟩
 f34:=⟨Tryz.f242.name,by decide,Tryz.func242.trans (congrArg some (by kernel_rfl))⟩
 f35:=⟨Tryz.f151.name,by decide,Tryz.func151.trans (congrArg some (by kernel_rfl))⟩
 f40:=⟨Tryz.f259.name,by decide,Tryz.func259.trans (congrArg some (by kernel_rfl))⟩
 t0:=Tryz.underlying0
 a0:=Tryz.isAgg0
 z0:=Tryz.sizeOf0
 v0:=Tryz.zeroValue0
 t3:=Tryz.underlying3
 a3:=Tryz.isAgg3
 z3:=Tryz.sizeOf3
 v3:=Tryz.zeroValue3
 t4:=Tryz.underlying4
 a4:=Tryz.isAgg4
 z4:=Tryz.sizeOf4
 v4:=Tryz.zeroValue4
 t5:=Tryz.underlying5
 a5:=Tryz.isAgg5
 z5:=Tryz.sizeOf5
 v5:=Tryz.zeroValue5
 t9:=Tryz.underlying9
 a9:=Tryz.isAgg9
 z9:=Tryz.sizeOf9
 v9:=Tryz.zeroValue9
 t22:=Tryz.underlying22
 a22:=Tryz.isAgg22
 z22:=Tryz.sizeOf22
 v22:=Tryz.zeroValue22
 t23:=Tryz.underlying22
 a23:=Tryz.isAgg22
 z23:=Tryz.sizeOf22
 v23:=Tryz.zeroValue22
 t25:=Tryz.underlying3
 a25:=Tryz.isAgg3
 z25:=Tryz.sizeOf3
 v25:=Tryz.zeroValue3
 t32:=Tryz.underlying67
 a32:=Tryz.isAgg67
 z32:=Tryz.sizeOf67
 v32:=Tryz.zeroValue67
 t35:=Tryz.underlying199
 a35:=Tryz.isAgg199
 z35:=Tryz.sizeOf199
 v35:=Tryz.zeroValue199
 t36:=Tryz.underlying200
 a36:=Tryz.isAgg200
 z36:=Tryz.sizeOf200
 v36:=Tryz.zeroValue200
 t41:=Tryz.underlying204
 a41:=Tryz.isAgg204
 z41:=Tryz.sizeOf204
 v41:=Tryz.zeroValue204
 t44:=Tryz.underlying207
 a44:=Tryz.isAgg207
 z44:=Tryz.sizeOf207
 v44:=Tryz.zeroValue207
 t46:=Tryz.underlying27
 a46:=Tryz.isAgg27
 z46:=Tryz.sizeOf27
 v46:=Tryz.zeroValue27
 t53:=Tryz.underlying215
 a53:=Tryz.isAgg215
 z53:=Tryz.sizeOf215
 v53:=Tryz.zeroValue215
 t57:=Tryz.underlying219
 a57:=Tryz.isAgg219
 z57:=Tryz.sizeOf219
 v57:=Tryz.zeroValue219
 t63:=Tryz.underlying222
 a63:=Tryz.isAgg222
 z63:=Tryz.sizeOf222
 v63:=Tryz.zeroValue222
 t64:=Tryz.underlying223
 a64:=Tryz.isAgg223
 z64:=Tryz.sizeOf223
 v64:=Tryz.zeroValue223 }
def Tryz.l225_ren:Go.Shelf.Ren:=⟨fun | 6=>225 | 15=>150 | 14=>238 | 28=>176 | 29=>177 | 20=>243 | 21=>244 | 22=>245 | 23=>246 | 24=>247 | 25=>248 | 26=>249 | 27=>250 | 46=>260 | 47=>184 | 48=>185 | 49=>261 | 50=>262 | 57=>266 | n=>n,fun | 22=>30 | 24=>137 | 25=>195 | 3=>3 | 39=>67 | 0=>0 | 53=>207 | 55=>27 | 4=>4 | 46=>200 | 45=>199 | 50=>204 | 5=>5 | 9=>9 | 66=>215 | 70=>219 | 76=>222 | 77=>223 | n=>n,fun | n=>n⟩
theorem Tryz.l225:Go.Proofs.SlLaysF0.n6 Tryz.prog Tryz.l225_ren:={
 mixed:=by kernel_rfl
 f6:=⟨Tryz.f225.name,by decide,Tryz.func225.trans (congrArg some (by kernel_rfl))⟩
 f14:=⟨Tryz.f238.name,by decide,Tryz.func238.trans (congrArg some (by kernel_rfl))⟩
 f15:=Tryz.func150.trans (congrArg some (by kernel_rfl))
 f20:=⟨Tryz.f243.name,by decide,Tryz.func243.trans (congrArg some (by kernel_rfl))⟩
 f21:=⟨Tryz.f244.name,by decide,Tryz.func244.trans (congrArg some (by kernel_rfl))⟩
 f22:=⟨Tryz.f245.name,by decide,Tryz.func245.trans (congrArg some (by kernel_rfl))⟩
 f23:=⟨Tryz.f246.name,by decide,Tryz.func246.trans (congrArg some (by kernel_rfl))⟩
 f24:=⟨Tryz.f247.name,by decide,Tryz.func247.trans (congrArg some (by kernel_rfl))⟩
 f25:=⟨Tryz.f248.name,by decide,Tryz.func248.trans (congrArg some (by kernel_rfl))⟩
 f26:=⟨Tryz.f249.name,by decide,Tryz.func249.trans (congrArg some (by kernel_rfl))⟩
 f27:=⟨Tryz.f250.name,by decide,Tryz.func250.trans (congrArg some (by kernel_rfl))⟩
 f28:=Tryz.func176.trans (congrArg some (by kernel_rfl))
 f29:=Tryz.func177.trans (congrArg some (by kernel_rfl))
 f46:=⟨Tryz.f260.name,by decide,Tryz.func260.trans (congrArg some (by kernel_rfl))⟩
 f47:=Tryz.func184.trans (congrArg some (by kernel_rfl))
 f48:=Tryz.func185.trans (congrArg some (by kernel_rfl))
 f49:=⟨Tryz.f261.name,by decide,Tryz.func261.trans (congrArg some (by kernel_rfl))⟩
 f50:=⟨Tryz.f262.name,by decide,Tryz.func262.trans (congrArg some (by kernel_rfl))⟩
 f57:=⟨Tryz.f266.name,by decide,Tryz.func266.trans (congrArg some (by kernel_rfl))⟩
 t0:=Tryz.underlying0
 a0:=Tryz.isAgg0
 z0:=Tryz.sizeOf0
 v0:=Tryz.zeroValue0
 t3:=Tryz.underlying3
 a3:=Tryz.isAgg3
 z3:=Tryz.sizeOf3
 v3:=Tryz.zeroValue3
 t4:=Tryz.underlying4
 a4:=Tryz.isAgg4
 z4:=Tryz.sizeOf4
 v4:=Tryz.zeroValue4
 t5:=Tryz.underlying5
 a5:=Tryz.isAgg5
 z5:=Tryz.sizeOf5
 v5:=Tryz.zeroValue5
 t9:=Tryz.underlying9
 a9:=Tryz.isAgg9
 z9:=Tryz.sizeOf9
 v9:=Tryz.zeroValue9
 t22:=Tryz.underlying30
 a22:=Tryz.isAgg30
 z22:=Tryz.sizeOf30
 v22:=Tryz.zeroValue30
 t25:=Tryz.underlying195
 a25:=Tryz.isAgg195
 z25:=Tryz.sizeOf195
 v25:=Tryz.zeroValue195
 t39:=Tryz.underlying67
 a39:=Tryz.isAgg67
 z39:=Tryz.sizeOf67
 v39:=Tryz.zeroValue67
 t45:=Tryz.underlying199
 a45:=Tryz.isAgg199
 z45:=Tryz.sizeOf199
 v45:=Tryz.zeroValue199
 t46:=Tryz.underlying200
 a46:=Tryz.isAgg200
 z46:=Tryz.sizeOf200
 v46:=Tryz.zeroValue200
 t50:=Tryz.underlying204
 a50:=Tryz.isAgg204
 z50:=Tryz.sizeOf204
 v50:=Tryz.zeroValue204
 t53:=Tryz.underlying207
 a53:=Tryz.isAgg207
 z53:=Tryz.sizeOf207
 v53:=Tryz.zeroValue207
 t55:=Tryz.underlying27
 a55:=Tryz.isAgg27
 z55:=Tryz.sizeOf27
 v55:=Tryz.zeroValue27
 t66:=Tryz.underlying215
 a66:=Tryz.isAgg215
 z66:=Tryz.sizeOf215
 v66:=Tryz.zeroValue215
 t70:=Tryz.underlying219
 a70:=Tryz.isAgg219
 z70:=Tryz.sizeOf219
 v70:=Tryz.zeroValue219
 t76:=Tryz.underlying222
 a76:=Tryz.isAgg222
 z76:=Tryz.sizeOf222
 v76:=Tryz.zeroValue222
 t77:=Tryz.underlying223
 a77:=Tryz.isAgg223
 z77:=Tryz.sizeOf223
 v77:=Tryz.zeroValue223 }
def Tryz.l227_ren:Go.Shelf.Ren:=⟨fun | 6=>227 | 15=>150 | 14=>239 | 28=>176 | 29=>177 | 20=>251 | 21=>252 | 22=>253 | 23=>254 | 24=>255 | 25=>256 | 26=>257 | 27=>258 | 46=>263 | 47=>184 | 48=>185 | 49=>264 | 50=>265 | 57=>267 | n=>n,fun | 22=>31 | 24=>141 | 25=>197 | 3=>3 | 39=>67 | 0=>0 | 53=>207 | 55=>27 | 4=>4 | 46=>200 | 45=>199 | 50=>204 | 5=>5 | 9=>9 | 66=>215 | 70=>219 | 76=>222 | 77=>223 | n=>n,fun | n=>n⟩
theorem Tryz.l227:Go.Proofs.SlLaysF0.n6 Tryz.prog Tryz.l227_ren:={
 mixed:=by kernel_rfl
 f6:=⟨Tryz.f227.name,by decide,Tryz.func227.trans (congrArg some (by kernel_rfl))⟩
 f14:=⟨Tryz.f239.name,by decide,Tryz.func239.trans (congrArg some (by kernel_rfl))⟩
 f15:=Tryz.func150.trans (congrArg some (by kernel_rfl))
 f20:=⟨Tryz.f251.name,by decide,Tryz.func251.trans (congrArg some (by kernel_rfl))⟩
 f21:=⟨Tryz.f252.name,by decide,Tryz.func252.trans (congrArg some (by kernel_rfl))⟩
 f22:=⟨Tryz.f253.name,by decide,Tryz.func253.trans (congrArg some (by kernel_rfl))⟩
 f23:=⟨Tryz.f254.name,by decide,Tryz.func254.trans (congrArg some (by kernel_rfl))⟩
 f24:=⟨Tryz.f255.name,by decide,Tryz.func255.trans (congrArg some (by kernel_rfl))⟩
 f25:=⟨Tryz.f256.name,by decide,Tryz.func256.trans (congrArg some (by kernel_rfl))⟩
 f26:=⟨Tryz.f257.name,by decide,Tryz.func257.trans (congrArg some (by kernel_rfl))⟩
 f27:=⟨Tryz.f258.name,by decide,Tryz.func258.trans (congrArg some (by kernel_rfl))⟩
 f28:=Tryz.func176.trans (congrArg some (by kernel_rfl))
 f29:=Tryz.func177.trans (congrArg some (by kernel_rfl))
 f46:=⟨Tryz.f263.name,by decide,Tryz.func263.trans (congrArg some (by kernel_rfl))⟩
 f47:=Tryz.func184.trans (congrArg some (by kernel_rfl))
 f48:=Tryz.func185.trans (congrArg some (by kernel_rfl))
 f49:=⟨Tryz.f264.name,by decide,Tryz.func264.trans (congrArg some (by kernel_rfl))⟩
 f50:=⟨Tryz.f265.name,by decide,Tryz.func265.trans (congrArg some (by kernel_rfl))⟩
 f57:=⟨Tryz.f267.name,by decide,Tryz.func267.trans (congrArg some (by kernel_rfl))⟩
 t0:=Tryz.underlying0
 a0:=Tryz.isAgg0
 z0:=Tryz.sizeOf0
 v0:=Tryz.zeroValue0
 t3:=Tryz.underlying3
 a3:=Tryz.isAgg3
 z3:=Tryz.sizeOf3
 v3:=Tryz.zeroValue3
 t4:=Tryz.underlying4
 a4:=Tryz.isAgg4
 z4:=Tryz.sizeOf4
 v4:=Tryz.zeroValue4
 t5:=Tryz.underlying5
 a5:=Tryz.isAgg5
 z5:=Tryz.sizeOf5
 v5:=Tryz.zeroValue5
 t9:=Tryz.underlying9
 a9:=Tryz.isAgg9
 z9:=Tryz.sizeOf9
 v9:=Tryz.zeroValue9
 t22:=Tryz.underlying31
 a22:=Tryz.isAgg31
 z22:=Tryz.sizeOf31
 v22:=Tryz.zeroValue31
 t25:=Tryz.underlying197
 a25:=Tryz.isAgg197
 z25:=Tryz.sizeOf197
 v25:=Tryz.zeroValue197
 t39:=Tryz.underlying67
 a39:=Tryz.isAgg67
 z39:=Tryz.sizeOf67
 v39:=Tryz.zeroValue67
 t45:=Tryz.underlying199
 a45:=Tryz.isAgg199
 z45:=Tryz.sizeOf199
 v45:=Tryz.zeroValue199
 t46:=Tryz.underlying200
 a46:=Tryz.isAgg200
 z46:=Tryz.sizeOf200
 v46:=Tryz.zeroValue200
 t50:=Tryz.underlying204
 a50:=Tryz.isAgg204
 z50:=Tryz.sizeOf204
 v50:=Tryz.zeroValue204
 t53:=Tryz.underlying207
 a53:=Tryz.isAgg207
 z53:=Tryz.sizeOf207
 v53:=Tryz.zeroValue207
 t55:=Tryz.underlying27
 a55:=Tryz.isAgg27
 z55:=Tryz.sizeOf27
 v55:=Tryz.zeroValue27
 t66:=Tryz.underlying215
 a66:=Tryz.isAgg215
 z66:=Tryz.sizeOf215
 v66:=Tryz.zeroValue215
 t70:=Tryz.underlying219
 a70:=Tryz.isAgg219
 z70:=Tryz.sizeOf219
 v70:=Tryz.zeroValue219
 t76:=Tryz.underlying222
 a76:=Tryz.isAgg222
 z76:=Tryz.sizeOf222
 v76:=Tryz.zeroValue222
 t77:=Tryz.underlying223
 a77:=Tryz.isAgg223
 z77:=Tryz.sizeOf223
 v77:=Tryz.zeroValue223 }
end Go.Proofs
namespace Go.Maps
end Go.Maps
namespace Go.AX.Q19
open Go Go.AX Go.Proofs Go.Maps Go.Sort Go.Shelf Go.RowKit
theorem KO {wl:WL}{X:Type}{f:X->D}{cmp:X->X->Option Int}{g:Nat}(eg :∀args w,(callFunc g args).run Tryz.prog w=.ok (.enter g args) w)(hcmp :∀{a b r},cmp a b=some r->CallsOK wl.low Tryz.prog g [.d (f a),.d (f b)] [] (.d (D.i r)) []){l r:List X}(h:EO cmp l=some r)(hagg :∀x,(f x).isAgg=true:=by exact fun _=>rfl):CallsOK wl Tryz.prog 120 [.own 0 (List.map f l).length,.fn g []] [.row 88 3 (List.map f l) .no] (.tup []) [.row 88 3 (List.map f r) .no]:=
 RY Tryz.l120 (ca Tryz.func120 (by kernel_rfl) (by kernel_rfl)) Tryz.isAgg88 Tryz.sizeOf88 eg hagg hcmp h
theorem VS {wl:WL}{l r:List Int}(h:Lm l=some r):CallsOK wl Tryz.prog 218 [.own 0 (List.map D.i l).length] [.row 3 1 (List.map D.i l) .no] (.tup []) [.row 3 1 (List.map D.i r) .no]:=
 ai Tryz.l218 (ca Tryz.func218 (by kernel_rfl) (by kernel_rfl)) h
theorem Vf {wl:WL}{X:Type}{f:X->D}{cmp:X->X->Option Int}{g:Nat}(eg :∀args w,(callFunc g args).run Tryz.prog w=.ok (.enter g args) w)(hcmp :∀{a b r},cmp a b=some r->CallsOK wl.low Tryz.prog g [.d (f a),.d (f b)] [] (.d (D.i r)) []){l r:List X}(h:EO cmp l=some r)(hagg :∀x,(f x).isAgg=true:=by exact fun _=>rfl):CallsOK wl Tryz.prog 225 [.own 0 (List.map f l).length,.fn g []] [.row 137 2 (List.map f l) .no] (.tup []) [.row 137 2 (List.map f r) .no]:=
 RY Tryz.l225 (ca Tryz.func225 (by kernel_rfl) (by kernel_rfl)) Tryz.isAgg137 Tryz.sizeOf137 eg hagg hcmp h
theorem WN {wl:WL}{X:Type}{f:X->D}{cmp:X->X->Option Int}{g:Nat}(eg :∀args w,(callFunc g args).run Tryz.prog w=.ok (.enter g args) w)(hcmp :∀{a b r},cmp a b=some r->CallsOK wl.low Tryz.prog g [.d (f a),.d (f b)] [] (.d (D.i r)) []){l r:List X}(h:EO cmp l=some r)(hagg :∀x,(f x).isAgg=true:=by exact fun _=>rfl):CallsOK wl Tryz.prog 227 [.own 0 (List.map f l).length,.fn g []] [.row 141 3 (List.map f l) .no] (.tup []) [.row 141 3 (List.map f r) .no]:=
 RY Tryz.l227 (ca Tryz.func227 (by kernel_rfl) (by kernel_rfl)) Tryz.isAgg141 Tryz.sizeOf141 eg hagg hcmp h
end Go.AX.Q19
end
section
namespace Go.AX.Q19
open Go Go.AX Go.Proofs
variable {wl:Prop}
theorem Gt {a0:List UInt8}{a1:List Int}{r:(List UInt8)}(h:DR a0 a1=some r):yC wl 158 [AV.own 0 (List.map D.u8 a0).length,AV.d (D.l 1 D.i a1)] [.row 5 1 (List.map D.u8 a0) .no] (AV.own 0 (List.map D.u8 r).length) [.row 5 1 (List.map D.u8 r) .no]:=by
 refine oK Tryz.f158 ⟨rfl,?_⟩;unfold DR at h;refine⟨a1.length,X10 _,?_⟩;revert h;refine AG (fun v1=>⟨yO 0 D.u8 v1::dd 28 ([]),yR 5 1 D.u8 v1::nn 29 ([])⟩) ?_ ?_
 ·intro k2 h;revert h;refine Ac 7 1 D.i rfl (fun i3 v4=>⟨yO 0 D.u8 v4::dd 6 (y6 a1::yi (a1.length:Int)::yi (i3:Int)::dd 19 ([])),yR 5 1 D.u8 v4::nn 29 ([])⟩) ?_ ?_ ?_
  ·exact wk
  ·rintro v4 K5 h;(conv=>whnf);refine .go ?_;(conv=>whnf);refine BI Cb ?_;exact AA wk h
  rintro next6 i3 x7 v4 K5 hii3 hxi3 hwi3 h hK8;(conv=>whnf);refine .go ?_;(conv=>whnf);refine BD (CQ hii3) ?_;(conv=>whnf);refine .go ?_;refine⟨BF (f:=D.i) hii3,D.i x7,hxi3,rfl,?_⟩;refine⟨by decide,_,rfl,?_⟩;refine⟨_,As _,?_⟩;refine⟨by decide,_,rfl,?_⟩;refine⟨_,As _,?_⟩;refine⟨by decide,_,rfl,?_⟩;refine⟨_,As _,?_⟩;refine⟨_,As _,?_⟩;refine⟨rfl,?_⟩;obtain⟨v9,g10,h⟩:=AB h;refine⟨rfl,Ab (f:=D.u8) (g:=D.u8) g10,_,Ag (f:=D.u8) g10,?_⟩;refine⟨_,hwi3,?_⟩;exact hK8 _ _ wk h
 rintro v1 h;(conv=>whnf);refine .inl ?_;cases h;exact⟨rfl,rfl⟩
theorem IS {a0:List JAD}{r:(List UInt8)}(h:Be a0=some r):yC wl 157 [AV.d (D.l 2 JAD.toD a0)] [] (.d (D.l 1 D.u8 r)) []:=by
 refine oK Tryz.f157 ⟨rfl,?_⟩;unfold Be at h;refine⟨a0.length,X10 _,?_⟩;revert h;refine AG (fun v1=>⟨X::X::X::yO 3 D.u8 v1::dd 24 ([]),N::N::N::yR 5 1 D.u8 v1::nn 24 ([])⟩) ?_ ?_
 ·intro k2 h;revert h;refine Ac 7 2 JAD.toD rfl (fun i3 v4=>⟨X::X::X::yO 3 D.u8 v4::X::X::X::y0 a0::yi (a0.length:Int)::yi (i3:Int)::dd 18 ([]),N::N::N::yR 5 1 D.u8 v4::nn 24 ([])⟩) ?_ ?_ ?_
  ·exact wk
  ·rintro v4 K5 h;(conv=>whnf);refine .go ?_;(conv=>whnf);refine BI Cb ?_;exact AA wk h
  rintro next6 i3 x7 v4 K5 hii3 hxi3 hwi3 h hK8;(conv=>whnf);refine .go ?_;(conv=>whnf);refine BD (CQ hii3) ?_;(conv=>whnf);refine .go ?_;refine⟨BF (f:=JAD.toD) hii3,JAD.toD x7,hxi3,rfl,?_⟩;revert h;refine AG (fun v9=>⟨X::X::X::yO 3 D.u8 v4::X::yr 5 0::yv v9::y0 a0::yi (a0.length:Int)::yi (i3:Int)::dd 18 ([]),N::N::N::yR 5 1 D.u8 v4::N::yB (JAD.av x7)::nn 22 ([])⟩) ?_ ?_
  ·intro k10 h;exact sJ h (fun h=>AA wk h) fun h=>AA wk h
  rintro v9 h;(conv=>whnf);refine .inl (dO ?_);refine⟨x7.ASNs.length,X10 _,?_⟩;refine⟨_,As _,?_⟩;refine⟨rfl,?_⟩;obtain⟨v11,g12,h⟩:=AB h;refine⟨rfl,Ab (f:=D.u8) (g:=D.u8) g12,_,Ag (f:=D.u8) g12,?_⟩;obtain⟨v13,g14,h⟩:=AB h;refine⟨_,_,Gt g14,.inl rfl,?_⟩;(conv=>whnf);refine cO ?_;refine⟨_,hwi3,?_⟩;exact hK8 _ _ wk h
 rintro v1 h;(conv=>whnf);refine .inl ?_;(conv=>whnf);refine .inl ?_;refine⟨rfl,?_⟩;cases h;exact⟨rfl,rfl⟩
theorem Ik {a0:List JAB}{r:(List UInt8)}(h:Bv a0=some r):yC wl 159 [AV.d (D.l 2 JAB.toD a0)] [] (.d (D.l 1 D.u8 r)) []:=by
 refine oK Tryz.f159 ⟨rfl,?_⟩;unfold Bv at h;refine⟨a0.length,X10 _,?_⟩;revert h;refine AG (fun v1=>⟨X::X::X::yO 3 D.u8 v1::dd 19 ([]),N::N::N::yR 5 1 D.u8 v1::nn 19 ([])⟩) ?_ ?_
 ·intro k2 h;revert h;refine Ac 6 2 JAB.toD rfl (fun i3 v4=>⟨X::X::X::yO 3 D.u8 v4::X::X::y1 a0::yi (a0.length:Int)::yi (i3:Int)::dd 14 ([]),N::N::N::yR 5 1 D.u8 v4::nn 19 ([])⟩) ?_ ?_ ?_
  ·exact wk
  ·rintro v4 K5 h;(conv=>whnf);refine .go ?_;(conv=>whnf);refine BI Cb ?_;exact AA wk h
  rintro next6 i3 x7 v4 K5 hii3 hxi3 hwi3 h hK8;(conv=>whnf);refine .go ?_;(conv=>whnf);refine BD (CQ hii3) ?_;(conv=>whnf);refine .go ?_;refine⟨BF (f:=JAB.toD) hii3,JAB.toD x7,hxi3,rfl,?_⟩;refine⟨by decide,_,rfl,?_⟩;refine⟨_,rfl,?_⟩;refine⟨rfl,?_⟩;obtain⟨v9,g10,h⟩:=AB h;refine⟨_,_,some [],Gt g10,?_⟩;refine⟨_,hwi3,?_⟩;exact hK8 _ _ wk h
 rintro v1 h;(conv=>whnf);refine .inl ?_;(conv=>whnf);refine .inl ?_;refine⟨rfl,?_⟩;cases h;exact⟨rfl,rfl⟩
theorem MX {a0:List JAF}{r:(List UInt8)}(h:Du a0=some r):yC wl 160 [AV.d (D.l 3 JAF.toD a0)] [] (.d (D.l 1 D.u8 r)) []:=by
 refine oK Tryz.f160 ⟨rfl,?_⟩;unfold Du at h;refine⟨a0.length,X10 _,?_⟩;revert h;refine AG (fun v1=>⟨X::X::X::yO 3 D.u8 v1::dd 19 ([]),N::N::N::yR 5 1 D.u8 v1::nn 19 ([])⟩) ?_ ?_
 ·intro k2 h;revert h;refine Ac 6 3 JAF.toD rfl (fun i3 v4=>⟨X::X::X::yO 3 D.u8 v4::X::X::y2 a0::yi (a0.length:Int)::yi (i3:Int)::dd 14 ([]),N::N::N::yR 5 1 D.u8 v4::nn 19 ([])⟩) ?_ ?_ ?_
  ·exact wk
  ·rintro v4 K5 h;(conv=>whnf);refine .go ?_;(conv=>whnf);refine BI Cb ?_;exact AA wk h
  rintro next6 i3 x7 v4 K5 hii3 hxi3 hwi3 h hK8;(conv=>whnf);refine .go ?_;(conv=>whnf);refine BD (CQ hii3) ?_;(conv=>whnf);refine .go ?_;refine⟨BF (f:=JAF.toD) hii3,JAF.toD x7,hxi3,rfl,?_⟩;refine⟨rfl,?_⟩;obtain⟨v9,g10,h⟩:=AB h;refine⟨_,_,some [],Gt g10,?_⟩;refine⟨_,hwi3,?_⟩;exact hK8 _ _ wk h
 rintro v1 h;(conv=>whnf);refine .inl ?_;(conv=>whnf);refine .inl ?_;refine⟨rfl,?_⟩;cases h;exact⟨rfl,rfl⟩
theorem LF {a0:JAA}{a1:JAA}{r:Int}(h:DC a0 a1=some r):yC wl 161 [AV.d (JAA.toD a0),AV.d (JAA.toD a1)] [] (.d (D.i r)) []:=by
 refine oK Tryz.f161 ⟨rfl,?_⟩;unfold DC at h;obtain⟨v1,g2,h⟩:=AB h;refine⟨_,_,some [],A1 g2,?_⟩;cases h;exact⟨rfl,rfl⟩
theorem FB {a1:List Int}{r:(List UInt8)}(h:BJ a1=some r):yC wl 158 [.d (D.nil 1),AV.d (D.l 1 D.i a1)] [] (.d (D.l 1 D.u8 r)) []:=by
 refine oK Tryz.f158 ⟨rfl,?_⟩;unfold BJ at h;refine⟨a1.length,X10 _,?_⟩;revert h;refine AG (fun v1=>⟨yO 26 D.u8 v1::dd 28 ([]),nn 26 (yR 5 1 D.u8 v1::N::N::[])⟩) ?_ ?_
 ·intro k2 h;revert h;refine Ac 7 1 D.i rfl (fun i3 v4=>⟨yO 26 D.u8 v4::dd 6 (y6 a1::yi (a1.length:Int)::yi (i3:Int)::dd 19 ([])),nn 26 (yR 5 1 D.u8 v4::N::N::[])⟩) ?_ ?_ ?_
  ·exact wk
  ·rintro v4 K5 h;(conv=>whnf);refine .go ?_;(conv=>whnf);refine BI Cb ?_;exact AA wk h
  rintro next6 i3 x7 v4 K5 hii3 hxi3 hwi3 h hK8;(conv=>whnf);refine .go ?_;(conv=>whnf);refine BD (CQ hii3) ?_;(conv=>whnf);refine .go ?_;refine⟨BF (f:=D.i) hii3,D.i x7,hxi3,rfl,?_⟩;refine⟨by decide,_,rfl,?_⟩;refine⟨_,As _,?_⟩;refine⟨by decide,_,rfl,?_⟩;refine⟨_,As _,?_⟩;refine⟨by decide,_,rfl,?_⟩;refine⟨_,As _,?_⟩;refine⟨_,As _,?_⟩;refine⟨rfl,?_⟩;obtain⟨v9,g10,h⟩:=AB h;refine⟨rfl,Ab (f:=D.u8) (g:=D.u8) g10,_,Ag (f:=D.u8) g10,?_⟩;refine⟨_,hwi3,?_⟩;exact hK8 _ _ wk h
 rintro v1 h;(conv=>whnf);refine .inl ?_;(conv=>whnf);refine .inl ?_;refine⟨rfl,?_⟩;cases h;exact⟨rfl,rfl⟩
theorem Oh {a0:JAA}{a1:JAA}{r:Int}(h:Fp a0 a1=some r):yC wl 136 [AV.d (JAA.toD a0),AV.d (JAA.toD a1)] [] (.d (D.i r)) []:=by
 refine oK Tryz.f136 ⟨rfl,?_⟩;unfold Fp at h;obtain⟨v1,g2,h⟩:=AB h;refine⟨_,_,some [],A1 g2,?_⟩;cases h;exact⟨rfl,rfl⟩
theorem Hj {a1:List JAE}{a2:Bool}{r:(List UInt8)}(h:EI a1 a2=some r):yC wl 96 [.d (D.nil 1),AV.d (D.l 4 JAE.toD a1),AV.d (D.b a2)] [] (.d (D.l 1 D.u8 r)) []:=by
 refine oK Tryz.f96 ⟨rfl,?_⟩;unfold EI at h;refine⟨a1.length,X10 _,?_⟩;revert h;refine AG (fun v1=>⟨yO 25 D.u8 v1::dd 36 ([]),nn 25 (yR 5 1 D.u8 v1::nn 11 ([]))⟩) ?_ ?_
 ·intro k2 h;revert h;refine Ac 9 4 JAE.toD rfl (fun i3 v4=>⟨yO 25 D.u8 v4::X::yb a2::dd 6 (y5 a1::yi (a1.length:Int)::yi (i3:Int)::dd 25 ([])),nn 25 (yR 5 1 D.u8 v4::nn 11 ([]))⟩) ?_ ?_ ?_
  ·exact wk
  ·rintro v4 K5 h;(conv=>whnf);refine .go ?_;(conv=>whnf);refine BI Cb ?_;exact AA wk h
  rintro next6 i3 x7 v4 K5 hii3 hxi3 hwi3 h hK8;(conv=>whnf);refine .go ?_;(conv=>whnf);refine BD (CQ hii3) ?_;(conv=>whnf);refine .go ?_;refine⟨BF (f:=JAE.toD) hii3,JAE.toD x7,hxi3,rfl,?_⟩;revert h;refine AG (fun v9=>⟨yO 25 D.u8 v9::X::yb a2::dd 6 (y5 a1::yi (a1.length:Int)::yi (i3:Int)::dd 25 ([])),nn 25 (yR 5 1 D.u8 v9::nn 11 ([]))⟩) ?_ ?_
  ·intro k10 h;refine sJ h (fun h=>?_) fun h=>AA wk h;(conv=>whnf);refine .inl (dO ?_);refine⟨_,As _,?_⟩;refine⟨rfl,?_⟩;obtain⟨v11,g12,h⟩:=AB h;refine⟨rfl,Ab (f:=D.u8) (g:=D.u8) g12,_,Ag (f:=D.u8) g12,?_⟩;obtain⟨v13,g14,h⟩:=AB h;refine⟨_,_,Fj g14,.inl rfl,?_⟩;refine⟨_,rfl,?_⟩;refine⟨by decide,_,rfl,?_⟩;obtain⟨v15,g16,h⟩:=AB h;refine⟨Fe (f:=D.u8) g16,_,EL (f:=D.u8) g16,?_⟩;obtain⟨v17,g18,h⟩:=AB h;refine⟨rfl,Ab (f:=D.u8) (g:=D.u8) g18,_,Ag (f:=D.u8) g18,?_⟩;(conv=>whnf);refine cO ?_;exact AA wk h
  rintro v9 h;refine⟨_,hwi3,?_⟩;exact hK8 _ _ wk h
 rintro v1 h;(conv=>whnf);refine .inl ?_;(conv=>whnf);refine .inl ?_;refine⟨rfl,?_⟩;cases h;exact⟨rfl,rfl⟩
theorem Qo {a0:JAG}{r:(List JAA)}(h:HS a0=some r):yC wl 95 [AV.d (JAG.toD a0)] [] (.d (D.l 3 JAA.toD r)) []:=by
 refine okx 131 Tryz.f95 (by kernel_rfl) (by kernel_rfl) ⟨rfl,?_⟩;unfold HS at h;revert h;refine AG (fun (v1,v2)=>⟨X::yr 1 0::dd 8 (AV.tup [yO 54 JAA.toD v2,yi v1]::dd 44 ([])),N::yB (JAG.av a0)::nn 52 (yR 88 3 JAA.toD v2::nn 131 ([]))⟩) ?_ ?_
 ·intro k3 h;(conv=>whnf);refine inl Tryz.f134 55 (by kernel_rfl) (by kernel_rfl) ⟨rfl,?_⟩;obtain⟨v4,g5,h⟩:=AB h;refine⟨_,_,some [],IC g5,?_⟩;(conv=>whnf);refine .go ?_;refine sJ h (fun h=>AA wk h) fun h=>?_;refine⟨_,As _,?_⟩;revert h;refine AG (fun v6=>⟨X::yr 56 0::X::X::yr 59 0::AV.fn 156 [yr 59 0]::dd 14 (AV.tup []::dd 93 ([])),N::yB (JAG.av a0)::some (OB.row 88 3 (List.map JAA.toD []) .no)::nn 53 (yB (JAC.av a0.JAC)::N::N::yB [yO 168 JAA.toD v6]::nn 108 (yR 88 3 JAA.toD v6::nn 17 ([])))⟩) ?_ ?_
  ·intro k7 h;(conv=>whnf);refine inl Tryz.f156 169 (by kernel_rfl) (by kernel_rfl) ⟨rfl,?_⟩;revert h;refine AG (fun v8=>⟨dd 17 ([]),N::yB (JAG.av a0)::some (OB.row 88 3 (List.map JAA.toD []) .no)::nn 53 (yB (JAC.av a0.JAC)::some (OB.row 88 3 (List.map JAA.toD []) .no)::N::yB [yO 185 JAA.toD v8]::nn 14 (some (OB.row 5 1 (List.map D.u8 ([(Aa a0.JAC.Origin)]:List UInt8)) .yes)::nn 110 (yR 88 3 JAA.toD v8::[])))⟩) ?_ ?_
   ·intro k9 h;refine sJ h (fun h=>?_) fun h=>AA wk h;obtain⟨v10,g11,h⟩:=AB h;refine⟨_,BX (ek:=D.i) (ev:=D.i) (l:=Bo) (k:=1) BL,D.i v10,D7 (z:=0) rfl g11,_,rfl,?_⟩;(conv=>whnf);refine .inl ?_;refine⟨rfl,?_⟩;refine⟨rfl,?_⟩;obtain⟨_,g12,h⟩:=AB h;refine⟨F2 (g:=JAA.toD) g12,?_⟩;exact AA wk h
   rintro v8 h;exact AA (.swap 185 168 rfl rfl rfl wk) h
  rintro v6 h;revert h;refine AG (fun v13=>⟨X::yr 56 0::X::X::yr 59 0::AV.fn 156 [yr 59 0]::dd 108 ([]),N::yB (JAG.av a0)::some (OB.row 88 3 (List.map JAA.toD []) .no)::nn 53 (yB (JAC.av a0.JAC)::N::N::yB [yO 168 JAA.toD v13]::nn 108 (yR 88 3 JAA.toD v13::nn 17 ([])))⟩) ?_ ?_
  ·intro k14 h;(conv=>whnf);refine .inr (tOB (by kernel_rfl) ?_);refine sJ h ?_ ?_<;>intro h
   ·obtain⟨v15,g16,h⟩:=AB h;refine⟨_,_,IS g16,.inl rfl,?_⟩;(conv=>whnf);refine cO ?_;revert h;refine AG (fun v17=>⟨X::yr 56 0::X::X::yr 59 0::AV.fn 156 [yr 59 0]::dd 28 (AV.tup []::dd 79 ([])),N::yB (JAG.av a0)::some (OB.row 88 3 (List.map JAA.toD []) .no)::nn 53 (yB (JAC.av a0.JAC)::N::N::yB [yO 168 JAA.toD v17]::nn 108 (yR 88 3 JAA.toD v17::nn 17 ([])))⟩) ?_ ?_
    ·intro k18 h;(conv=>whnf);refine inl Tryz.f156 169 (by kernel_rfl) (by kernel_rfl) ⟨rfl,?_⟩;(conv=>whnf);refine .go ?_;obtain⟨v19,g20,h⟩:=AB h;refine⟨_,BX (ek:=D.i) (ev:=D.i) (l:=Bo) (k:=2) BL,D.i v19,D7 (z:=0) rfl g20,_,rfl,?_⟩;refine⟨rfl,?_⟩;obtain⟨v21,g22,h⟩:=AB h;refine⟨rfl,Ab (f:=JAA.toD) (g:=JAA.toD) g22,_,Ag (f:=JAA.toD) g22,?_⟩;exact AA wk h
    rintro v17 h;exact AA wk h
   refine⟨a0.JAC.Path.length,X10 _,?_⟩;obtain⟨v23,g24,h⟩:=AB h;refine⟨_,_,IS g24,.inl rfl,?_⟩;(conv=>whnf);refine cO ?_;revert h;refine AG (fun v25=>⟨X::yr 56 0::X::X::yr 59 0::AV.fn 156 [yr 59 0]::dd 28 (AV.tup []::dd 79 ([])),N::yB (JAG.av a0)::some (OB.row 88 3 (List.map JAA.toD []) .no)::nn 53 (yB (JAC.av a0.JAC)::N::N::yB [yO 168 JAA.toD v25]::nn 108 (yR 88 3 JAA.toD v25::nn 17 ([])))⟩) ?_ ?_
   ·intro k26 h;(conv=>whnf);refine inl Tryz.f156 169 (by kernel_rfl) (by kernel_rfl) ⟨rfl,?_⟩;revert h;refine AG (fun v27=>⟨dd 17 ([]),N::yB (JAG.av a0)::some (OB.row 88 3 (List.map JAA.toD []) .no)::nn 53 (yB (JAC.av a0.JAC)::N::N::yB [yO 168 JAA.toD v27]::nn 108 (yR 88 3 JAA.toD v27::nn 17 ([])))⟩) ?_ ?_
    ·intro k28 h;refine sJ h (fun h=>?_) fun h=>AA wk h;obtain⟨v29,g30,h⟩:=AB h;refine⟨_,BX (ek:=D.i) (ev:=D.i) (l:=Bo) (k:=2) BL,D.i v29,D7 (z:=0) rfl g30,_,rfl,?_⟩;refine⟨rfl,?_⟩;obtain⟨v31,g32,h⟩:=AB h;refine⟨rfl,Ab (f:=JAA.toD) (g:=JAA.toD) g32,_,Ag (f:=JAA.toD) g32,?_⟩;exact AA wk h
    rintro v27 h;exact AA wk h
   rintro v25 h;exact AA wk h
  rintro v13 h;revert h;refine AG (fun v33=>⟨X::yr 56 0::X::X::yr 59 0::AV.fn 156 [yr 59 0]::dd 108 ([]),N::yB (JAG.av a0)::some (OB.row 88 3 (List.map JAA.toD []) .no)::nn 53 (yB (JAC.av a0.JAC)::N::N::yB [yO 168 JAA.toD v33]::nn 108 (yR 88 3 JAA.toD v33::nn 17 ([])))⟩) ?_ ?_
  ·intro k34 h;(conv=>whnf);refine .inr (tOB (by kernel_rfl) ?_);refine sJ h ?_ ?_<;>intro h
   ·obtain⟨v35,g36,h⟩:=AB h;refine⟨_,_,Fj g36,.inl rfl,?_⟩;(conv=>whnf);refine cO ?_;revert h;refine AG (fun v37=>⟨X::yr 56 0::X::X::yr 59 0::AV.fn 156 [yr 59 0]::dd 43 (AV.tup []::dd 64 ([])),N::yB (JAG.av a0)::some (OB.row 88 3 (List.map JAA.toD []) .no)::nn 53 (yB (JAC.av a0.JAC)::N::N::yB [yO 168 JAA.toD v37]::nn 108 (yR 88 3 JAA.toD v37::nn 17 ([])))⟩) ?_ ?_
    ·intro k38 h;(conv=>whnf);refine inl Tryz.f156 169 (by kernel_rfl) (by kernel_rfl) ⟨rfl,?_⟩;revert h;refine AG (fun v39=>⟨dd 17 ([]),N::yB (JAG.av a0)::some (OB.row 88 3 (List.map JAA.toD []) .no)::nn 53 (yB (JAC.av a0.JAC)::N::N::yB [yO 168 JAA.toD v39]::nn 108 (yR 88 3 JAA.toD v39::nn 17 ([])))⟩) ?_ ?_
     ·intro k40 h;refine sJ h (fun h=>?_) fun h=>AA wk h;obtain⟨v41,g42,h⟩:=AB h;refine⟨_,BX (ek:=D.i) (ev:=D.i) (l:=Bo) (k:=3) BL,D.i v41,D7 (z:=0) rfl g42,_,rfl,?_⟩;refine⟨rfl,?_⟩;obtain⟨v43,g44,h⟩:=AB h;refine⟨rfl,Ab (f:=JAA.toD) (g:=JAA.toD) g44,_,Ag (f:=JAA.toD) g44,?_⟩;exact AA wk h
     rintro v39 h;exact AA wk h
    rintro v37 h;exact AA wk h
   obtain⟨v45,g46,h⟩:=AB h;refine⟨_,_,Fj g46,.inl rfl,?_⟩;(conv=>whnf);refine cO ?_;revert h;refine AG (fun _=>⟨X::yr 56 0::X::X::yr 59 0::AV.fn 156 [yr 59 0]::dd 43 (AV.tup []::dd 64 ([])),N::yB (JAG.av a0)::some (OB.row 88 3 (List.map JAA.toD []) .no)::nn 53 (yB (JAC.av a0.JAC)::N::N::yB [yO 168 JAA.toD v13]::nn 108 (yR 88 3 JAA.toD v13::nn 17 ([])))⟩) ?_ ?_
   ·intro k47 h;(conv=>whnf);refine inl Tryz.f156 169 (by kernel_rfl) (by kernel_rfl) ⟨rfl,?_⟩;(conv=>whnf);refine .go ?_;exact AA wk h
   rintro _ h;exact AA wk h
  rintro v33 h;(conv=>whnf);refine .inr (tOB (by kernel_rfl) ?_);refine⟨rfl,?_⟩;obtain⟨v48,g49,h⟩:=AB h;refine⟨_,_,FB g49,.inl rfl,?_⟩;(conv=>whnf);refine cO ?_;revert h;refine AG (fun v50=>⟨X::yr 56 0::X::X::yr 59 0::AV.fn 156 [yr 59 0]::dd 52 (AV.tup []::dd 55 ([])),N::yB (JAG.av a0)::some (OB.row 88 3 (List.map JAA.toD []) .no)::nn 53 (yB (JAC.av a0.JAC)::N::N::yB [yO 168 JAA.toD v50]::nn 108 (yR 88 3 JAA.toD v50::nn 17 ([])))⟩) ?_ ?_
  ·intro k51 h;(conv=>whnf);refine inl Tryz.f156 169 (by kernel_rfl) (by kernel_rfl) ⟨rfl,?_⟩;revert h;refine AG (fun v52=>⟨dd 17 ([]),N::yB (JAG.av a0)::some (OB.row 88 3 (List.map JAA.toD []) .no)::nn 53 (yB (JAC.av a0.JAC)::N::N::yB [yO 168 JAA.toD v52]::nn 51 (some (OB.row 3 1 (List.map D.i ([a0.JAC.MED]:List Int)) .yes)::nn 56 (yR 88 3 JAA.toD v52::nn 17 ([]))))⟩) ?_ ?_
   ·intro k53 h;refine sJ h (fun h=>?_) fun h=>AA wk h;obtain⟨v54,g55,h⟩:=AB h;refine⟨_,BX (ek:=D.i) (ev:=D.i) (l:=Bo) (k:=4) BL,D.i v54,D7 (z:=0) rfl g55,_,rfl,?_⟩;refine⟨rfl,?_⟩;obtain⟨v56,g57,h⟩:=AB h;refine⟨rfl,Ab (f:=JAA.toD) (g:=JAA.toD) g57,_,Ag (f:=JAA.toD) g57,?_⟩;exact AA wk h
   rintro v52 h;exact AA wk h
  rintro v50 h;(conv=>whnf);refine .inr (tOB (by kernel_rfl) ?_);refine⟨rfl,?_⟩;obtain⟨v58,g59,h⟩:=AB h;refine⟨_,_,FB g59,.inl rfl,?_⟩;(conv=>whnf);refine cO ?_;revert h;refine AG (fun v60=>⟨X::yr 56 0::X::X::yr 59 0::AV.fn 156 [yr 59 0]::dd 61 (AV.tup []::dd 46 ([])),N::yB (JAG.av a0)::some (OB.row 88 3 (List.map JAA.toD []) .no)::nn 53 (yB (JAC.av a0.JAC)::N::N::yB [yO 168 JAA.toD v60]::nn 108 (yR 88 3 JAA.toD v60::nn 17 ([])))⟩) ?_ ?_
  ·intro k61 h;(conv=>whnf);refine inl Tryz.f156 169 (by kernel_rfl) (by kernel_rfl) ⟨rfl,?_⟩;revert h;refine AG (fun v62=>⟨dd 17 ([]),N::yB (JAG.av a0)::some (OB.row 88 3 (List.map JAA.toD []) .no)::nn 53 (yB (JAC.av a0.JAC)::N::N::yB [yO 168 JAA.toD v62]::nn 60 (some (OB.row 3 1 (List.map D.i ([a0.JAC.Pref]:List Int)) .yes)::nn 47 (yR 88 3 JAA.toD v62::nn 17 ([]))))⟩) ?_ ?_
   ·intro k63 h;refine sJ h (fun h=>?_) fun h=>AA wk h;obtain⟨v64,g65,h⟩:=AB h;refine⟨_,BX (ek:=D.i) (ev:=D.i) (l:=Bo) (k:=5) BL,D.i v64,D7 (z:=0) rfl g65,_,rfl,?_⟩;refine⟨rfl,?_⟩;obtain⟨v66,g67,h⟩:=AB h;refine⟨rfl,Ab (f:=JAA.toD) (g:=JAA.toD) g67,_,Ag (f:=JAA.toD) g67,?_⟩;exact AA wk h
   rintro v62 h;exact AA wk h
  rintro v60 h;(conv=>whnf);refine .inr (tOB (by kernel_rfl) ?_);refine⟨a0.JAC.Communities.length,X10 _,?_⟩;obtain⟨v68,g69,h⟩:=AB h;refine⟨_,_,Ik g69,.inl rfl,?_⟩;(conv=>whnf);refine cO ?_;revert h;refine AG (fun v70=>⟨X::yr 56 0::X::X::yr 59 0::AV.fn 156 [yr 59 0]::dd 70 (AV.tup []::dd 37 ([])),N::yB (JAG.av a0)::some (OB.row 88 3 (List.map JAA.toD []) .no)::nn 53 (yB (JAC.av a0.JAC)::N::N::yB [yO 168 JAA.toD v70]::nn 108 (yR 88 3 JAA.toD v70::nn 17 ([])))⟩) ?_ ?_
  ·intro k71 h;(conv=>whnf);refine inl Tryz.f156 169 (by kernel_rfl) (by kernel_rfl) ⟨rfl,?_⟩;revert h;refine AG (fun v72=>⟨dd 17 ([]),N::yB (JAG.av a0)::some (OB.row 88 3 (List.map JAA.toD []) .no)::nn 53 (yB (JAC.av a0.JAC)::N::N::yB [yO 168 JAA.toD v72]::nn 108 (yR 88 3 JAA.toD v72::nn 17 ([])))⟩) ?_ ?_
   ·intro k73 h;refine sJ h (fun h=>?_) fun h=>AA wk h;obtain⟨v74,g75,h⟩:=AB h;refine⟨_,BX (ek:=D.i) (ev:=D.i) (l:=Bo) (k:=8) BL,D.i v74,D7 (z:=0) rfl g75,_,rfl,?_⟩;refine⟨rfl,?_⟩;obtain⟨v76,g77,h⟩:=AB h;refine⟨rfl,Ab (f:=JAA.toD) (g:=JAA.toD) g77,_,Ag (f:=JAA.toD) g77,?_⟩;exact AA wk h
   rintro v72 h;exact AA wk h
  rintro v70 h;(conv=>whnf);refine .inr (tOB (by kernel_rfl) ?_);refine⟨a0.JAC.JAF.length,X10 _,?_⟩;obtain⟨v78,g79,h⟩:=AB h;refine⟨_,_,MX g79,.inl rfl,?_⟩;(conv=>whnf);refine cO ?_;revert h;refine AG (fun v80=>⟨X::yr 56 0::X::X::yr 59 0::AV.fn 156 [yr 59 0]::dd 79 (AV.tup []::dd 28 ([])),N::yB (JAG.av a0)::some (OB.row 88 3 (List.map JAA.toD []) .no)::nn 53 (yB (JAC.av a0.JAC)::N::N::yB [yO 168 JAA.toD v80]::nn 108 (yR 88 3 JAA.toD v80::nn 17 ([])))⟩) ?_ ?_
  ·intro k81 h;(conv=>whnf);refine inl Tryz.f156 169 (by kernel_rfl) (by kernel_rfl) ⟨rfl,?_⟩;revert h;refine AG (fun v82=>⟨dd 17 ([]),N::yB (JAG.av a0)::some (OB.row 88 3 (List.map JAA.toD []) .no)::nn 53 (yB (JAC.av a0.JAC)::N::N::yB [yO 168 JAA.toD v82]::nn 108 (yR 88 3 JAA.toD v82::nn 17 ([])))⟩) ?_ ?_
   ·intro k83 h;refine sJ h (fun h=>?_) fun h=>AA wk h;obtain⟨v84,g85,h⟩:=AB h;refine⟨_,BX (ek:=D.i) (ev:=D.i) (l:=Bo) (k:=32) BL,D.i v84,D7 (z:=0) rfl g85,_,rfl,?_⟩;refine⟨rfl,?_⟩;obtain⟨v86,g87,h⟩:=AB h;refine⟨rfl,Ab (f:=JAA.toD) (g:=JAA.toD) g87,_,Ag (f:=JAA.toD) g87,?_⟩;exact AA wk h
   rintro v82 h;exact AA wk h
  rintro v80 h;(conv=>whnf);refine .inr (tOB (by kernel_rfl) ?_);refine⟨rfl,?_⟩;obtain⟨v88,g89,h⟩:=AB h;refine⟨_,_,FB g89,.inl rfl,?_⟩;(conv=>whnf);refine cO ?_;revert h;refine AG (fun v90=>⟨X::yr 56 0::X::X::yr 59 0::dd 89 (AV.tup []::dd 19 ([])),N::yB (JAG.av a0)::some (OB.row 88 3 (List.map JAA.toD []) .no)::nn 53 (yB (JAC.av a0.JAC)::N::N::yB [yO 168 JAA.toD v90]::nn 108 (yR 88 3 JAA.toD v90::nn 17 ([])))⟩) ?_ ?_
  ·intro k91 h;(conv=>whnf);refine inl Tryz.f156 169 (by kernel_rfl) (by kernel_rfl) ⟨rfl,?_⟩;revert h;refine AG (fun v92=>⟨dd 17 ([]),N::yB (JAG.av a0)::some (OB.row 88 3 (List.map JAA.toD []) .no)::nn 53 (yB (JAC.av a0.JAC)::N::N::yB [yO 168 JAA.toD v92]::nn 87 (some (OB.row 3 1 (List.map D.i ([a0.JAC.OTC]:List Int)) .yes)::nn 20 (yR 88 3 JAA.toD v92::nn 17 ([]))))⟩) ?_ ?_
   ·intro k93 h;refine sJ h (fun h=>?_) fun h=>AA wk h;obtain⟨v94,g95,h⟩:=AB h;refine⟨_,BX (ek:=D.i) (ev:=D.i) (l:=Bo) (k:=35) BL,D.i v94,D7 (z:=0) rfl g95,_,rfl,?_⟩;refine⟨rfl,?_⟩;obtain⟨v96,g97,h⟩:=AB h;refine⟨rfl,Ab (f:=JAA.toD) (g:=JAA.toD) g97,_,Ag (f:=JAA.toD) g97,?_⟩;exact AA wk h
   rintro v92 h;exact AA wk h
  rintro v90 h;refine⟨a0.JAC.Other.length,X10 _,?_⟩;revert h;refine AG (fun v98=>⟨dd 4 (yr 59 0::dd 109 ([])),N::yB (JAG.av a0)::some (OB.row 88 3 (List.map JAA.toD []) .no)::nn 56 (yB [yO 168 JAA.toD v98]::nn 108 (yR 88 3 JAA.toD v98::nn 17 ([])))⟩) ?_ ?_
  ·intro k99 h;revert h;refine Ac 96 3 JAA.toD rfl (fun i100 v101=>⟨dd 4 (yr 59 0::dd 91 (AV.d (D.l 3 JAA.toD a0.JAC.Other)::yi (a0.JAC.Other.length:Int)::yi (i100:Int)::dd 15 ([]))),N::yB (JAG.av a0)::some (OB.row 88 3 (List.map JAA.toD []) .no)::nn 56 (yB [yO 168 JAA.toD v101]::nn 108 (yR 88 3 JAA.toD v101::nn 17 ([])))⟩) ?_ ?_ ?_
   ·exact wk
   ·rintro v101 K102 h;(conv=>whnf);refine .go ?_;(conv=>whnf);refine BI Cb ?_;exact AA wk h
   rintro next103 i100 x104 v101 K102 hii100 hxi100 hwi100 h hK105;(conv=>whnf);refine .go ?_;(conv=>whnf);refine BD (CQ hii100) ?_;(conv=>whnf);refine .go ?_;refine⟨BF (f:=JAA.toD) hii100,JAA.toD x104,hxi100,rfl,?_⟩;obtain⟨v106,g107,h⟩:=AB h;refine⟨_,_,some [],FW g107,?_⟩;refine⟨rfl,?_⟩;obtain⟨v108,g109,h⟩:=AB h;refine⟨rfl,Ab (f:=JAA.toD) (g:=JAA.toD) g109,_,Ag (f:=JAA.toD) g109,?_⟩;refine⟨_,hwi100,?_⟩;exact hK105 _ _ wk h
  rintro v98 h;obtain⟨v110,g111,h⟩:=AB h;have g111l:=G0 g111;refine⟨_,_,some [],KO (f:=JAA.toD) (enters_of Tryz.func161 (by kernel_rfl) rfl) (fun h=>LF h) g111,?_⟩;exact AA (.swap 168 54 rfl rfl rfl wk) h
 rintro⟨v1,v2⟩ h;revert h;refine AG (fun v112=>⟨X::yr 1 0::X::yO 54 JAA.toD v2::dd 18 (yb v112::dd 32 ([])),N::yB (JAG.av a0)::nn 52 (yR 88 3 JAA.toD v2::nn 131 ([]))⟩) ?_ ?_
 ·intro k113 h;refine⟨a0.Announce.length,X10 _,?_⟩;exact sJ h (fun h=>AA wk h) fun h=>AA wk h
 rintro v112 h;revert h;refine AG (fun v114=>⟨X::yr 1 0::X::yO 54 JAA.toD v114::dd 51 ([]),N::yB (JAG.av a0)::nn 52 (yR 88 3 JAA.toD v114::nn 131 ([]))⟩) ?_ ?_
 ·intro k115 h;refine sJ h (fun h=>?_) fun h=>AA wk h;obtain⟨v116,g117,h⟩:=AB h;refine⟨_,_,some [],Fj g117,?_⟩;obtain⟨v118,g119,h⟩:=AB h;refine⟨rfl,Ab (f:=D.u8) (g:=D.u8) g119,_,Ag (f:=D.u8) g119,?_⟩;(conv=>whnf);refine .inl (dO ?_);refine⟨rfl,?_⟩;obtain⟨v120,g121,h⟩:=AB h;refine⟨rfl,Ab (f:=D.u8) (g:=D.u8) g121,_,Ag (f:=D.u8) g121,?_⟩;obtain⟨v122,g123,h⟩:=AB h;refine⟨_,_,Jv g123,.inl rfl,?_⟩;(conv=>whnf);refine .inl ?_;refine⟨rfl,?_⟩;refine⟨rfl,?_⟩;obtain⟨v124,g125,h⟩:=AB h;refine⟨rfl,Ab (f:=JAA.toD) (g:=JAA.toD) g125,_,Ag (f:=JAA.toD) g125,?_⟩;(conv=>whnf);refine cO ?_;exact AA wk h
 rintro v114 h;obtain⟨v126,g127,h⟩:=AB h;refine⟨_,_,some [],Hj g127,?_⟩;refine⟨v126.length,X10 _,?_⟩;revert h;refine AG (fun v128=>⟨X::X::X::yO 54 JAA.toD v128::dd 51 ([]),nn 54 (yR 88 3 JAA.toD v128::nn 131 ([]))⟩) ?_ ?_
 ·intro k129 h;refine sJ h (fun h=>?_) fun h=>AA wk h;obtain⟨v130,g131,h⟩:=AB h;refine⟨rfl,Ab (f:=D.u8) (g:=D.u8) g131,_,Ag (f:=D.u8) g131,?_⟩;(conv=>whnf);refine .inl ?_;refine⟨rfl,?_⟩;refine⟨rfl,?_⟩;obtain⟨v132,g133,h⟩:=AB h;refine⟨rfl,Ab (f:=JAA.toD) (g:=JAA.toD) g133,_,Ag (f:=JAA.toD) g133,?_⟩;exact AA wk h
 rintro v128 h;obtain⟨v134,g135,h⟩:=AB h;have g135l:=G0 g135;refine⟨_,_,some [],KO (f:=JAA.toD) (enters_of Tryz.func136 (by kernel_rfl) rfl) (fun h=>Oh h) g135,?_⟩;(conv=>whnf);refine .inl ?_;(conv=>whnf);refine .inl ?_;refine⟨(by first | rfl | (simp only[X10];omega)|(simp only[cpy,X10,X21,X11,X18,X17,X20];omega)),?_⟩;cases h;exact⟨rfl,rfl⟩
theorem Nc {a1:Int}{r:(List UInt8)}(h:E7 a1=some r):yC wl 87 [.d (D.nil 1),AV.d (D.i a1)] [] (AV.own 0 (List.map D.u8 r).length) [.row 5 1 (List.map D.u8 r) .no]:=by
 refine oK Tryz.f87 ⟨rfl,?_⟩;unfold E7 at h;refine⟨by decide,_,rfl,?_⟩;refine⟨_,As _,?_⟩;refine⟨_,As _,?_⟩;refine⟨rfl,?_⟩;obtain⟨_,g1,h⟩:=AB h;refine⟨F2 (g:=D.u8) g1,?_⟩;(conv=>whnf);refine .inl ?_;(conv=>whnf);refine .inr ?_;cases h;exact⟨rfl,rfl⟩
theorem Hz {a0:JAG}{r:(List UInt8)×Bool}(h:EQ a0=some r):yC wl 49 [AV.d (JAG.toD a0)] [] (.tup [.d (D.l 1 D.u8 r.1),.d (D.b r.2)]) []:=by
 refine oK Tryz.f49 ⟨rfl,?_⟩;unfold EQ at h;obtain⟨v1,g2,h⟩:=AB h;refine⟨_,_,some [],Qo g2,?_⟩;obtain⟨⟨v3,v4⟩,g5,h⟩:=AB h;refine⟨_,_,some [],Na g5,?_⟩;obtain⟨v6,g7,h⟩:=AB h;refine⟨_,_,some [],Hj g7,?_⟩;refine⟨v6.length,X10 _,?_⟩;obtain⟨v8,g9,h⟩:=AB h;refine⟨_,_,some [19],Nc g9,?_⟩;obtain⟨v10,g11,h⟩:=AB h;refine⟨rfl,Ab (f:=D.u8) (g:=D.u8) g11,_,Ag (f:=D.u8) g11,?_⟩;refine⟨v3.length,X10 _,?_⟩;obtain⟨v12,g13,h⟩:=AB h;refine⟨_,_,some [],SU g13,?_⟩;obtain⟨v14,g15,h⟩:=AB h;refine⟨rfl,Ab (f:=D.u8) (g:=D.u8) g15,_,Ag (f:=D.u8) g15,?_⟩;obtain⟨v16,g17,h⟩:=AB h;refine⟨_,_,some [],Jv g17,?_⟩;revert h;refine AG (fun v18=>⟨X::X::yO 19 D.u8 v16::yb v18::dd 36 ([]),nn 19 (yR 5 1 D.u8 v16::nn 20 ([]))⟩) ?_ ?_
 ·intro k19 h;refine sJ h (fun h=>?_) fun h=>AA wk h;refine⟨v16.length,by first | exact X10 _ | rfl | (simp only[X10];omega),?_⟩;exact AA wk h
 rintro v18 h;(conv=>whnf);refine .inl ?_;refine⟨rfl,?_⟩;cases h;exact⟨rfl,rfl⟩
theorem He {a0:Addr}{r:Int}(h:CJ a0=some r):yC wl 100 [AV.d (Addr.toD a0)] [] (.d (D.i r)) []:=by
 refine oK Tryz.f100 ⟨rfl,?_⟩;unfold CJ at h;(conv=>whnf);refine .go ?_;refine sJ h ?_ ?_<;>intro h
 ·cases h;exact⟨rfl,rfl⟩
 cases h;exact⟨rfl,rfl⟩
theorem Pv {a0:Int}{r:UInt64×UInt64}(h:FN a0=some r):yC wl 137 [AV.d (D.i a0)] [] (.tup [.d (D.u64 r.1),.d (D.u64 r.2)]) []:=by
 refine oK Tryz.f137 ⟨rfl,?_⟩;unfold FN at h;(conv=>whnf);refine .go ?_;refine sJ h ?_ ?_<;>intro h
 ·refine⟨_,rfl,?_⟩;refine⟨_,Av _,?_⟩;refine⟨Int.natCast_nonneg _,_,Av _,?_⟩;refine⟨_,Av _,?_⟩;cases h;exact⟨rfl,rfl⟩
 refine⟨_,Av _,?_⟩;refine⟨Int.natCast_nonneg _,_,Av _,?_⟩;refine⟨_,Av _,?_⟩;cases h;exact⟨rfl,rfl⟩
theorem Ju {a0:Addr}{a1:Int}{r:Addr}(h:D5 a0 a1=some r):yC wl 101 [AV.d (Addr.toD a0),AV.d (D.i a1)] [] (.d (Addr.toD r)) []:=by
 refine oK Tryz.f101 ⟨rfl,?_⟩;unfold D5 at h;obtain⟨v1,g2,h⟩:=AB h;refine⟨_,_,some [],He g2,?_⟩;refine⟨_,rfl,?_⟩;obtain⟨⟨v3,v4⟩,g5,h⟩:=AB h;refine⟨_,_,some [],Pv g5,?_⟩;refine⟨_,Av _,?_⟩;refine⟨_,Av _,?_⟩;cases h;exact⟨rfl,rfl⟩
theorem P8 {a0:JAE}{r:Bool}(h:Gk a0=some r):yC wl 52 [AV.d (JAE.toD a0)] [] (.d (D.b r)) []:=by
 refine oK Tryz.f52 ⟨rfl,?_⟩;unfold Gk at h;revert h;refine AG (fun v1=>⟨X::X::yb v1::dd 26 ([]),nn 29 ([])⟩) ?_ ?_
 ·intro k2 h;(conv=>whnf);refine .inl (dO ?_);obtain⟨v3,g4,h⟩:=AB h;refine⟨_,_,G5 g4,.inl rfl,?_⟩;refine sJ h ?_ ?_<;>intro h
  ·refine sJ h ?_ ?_<;>intro h
   ·obtain⟨v5,g6,h⟩:=AB h;refine⟨_,_,He g6,.inl rfl,?_⟩;refine sJ h ?_ ?_<;>intro h
    ·obtain⟨v7,g8,h⟩:=AB h;refine⟨_,_,Ju g8,.inl rfl,?_⟩;(conv=>whnf);refine cO ?_;exact AA wk h
    (conv=>whnf);refine cO ?_;exact AA wk h
   (conv=>whnf);refine cO ?_;exact AA wk h
  (conv=>whnf);refine cO ?_;exact AA wk h
 rintro v1 h;cases h;exact⟨rfl,rfl⟩
theorem M8 {a0:JAE}{r:Bool}(h:Ez a0=some r):yC wl 51 [AV.d (JAE.toD a0)] [] (.d (D.b r)) []:=by
 refine oK Tryz.f51 ⟨rfl,?_⟩;unfold Ez at h;obtain⟨v1,g2,h⟩:=AB h;refine⟨_,_,some [],P8 g2,?_⟩;cases h;exact⟨rfl,rfl⟩
theorem L9 {r:JAC}(h:F3=some r):yC wl 60 [] [] (.d (JAC.toD r)) []:=by
 refine oK Tryz.f60 ⟨rfl,?_⟩;unfold F3 at h;cases h;exact⟨rfl,rfl⟩
theorem Pz {a0:JAC}{r:Bool}(h:GW a0=some r):yC wl 103 [AV.d (JAC.toD a0)] [] (.d (D.b r)) []:=by
 refine okx 2 Tryz.f103 (by kernel_rfl) (by kernel_rfl) ⟨rfl,?_⟩;unfold GW at h;revert h;refine AG (fun _=>⟨X::yr 1 0::X::X::AV.d (D.agg [D.i (-1),D.nil 2,D.b false,D.u64 (0:UInt64),D.u64 (0:UInt64),D.i (-1),D.i (-1),D.i (-1),D.nil 2,D.nil 3,D.nil 3])::dd 51 ([]),N::yB (JAC.av a0)::nn 56 ([])⟩) ?_ ?_
 ·intro k1 h;(conv=>whnf);refine inl Tryz.f60 56 (by kernel_rfl) (by kernel_rfl) ⟨rfl,?_⟩;exact AA wk h
 rintro _ h;revert h;refine AG (fun v2=>⟨X::X::yb v2::dd 53 ([]),nn 58 ([])⟩) ?_ ?_
 ·intro k3 h;refine sJ h (fun h=>?_) fun h=>AA wk h;refine sJ h (fun h=>?_) fun h=>AA wk h;refine sJ h (fun h=>?_) fun h=>AA wk h;refine sJ h (fun h=>?_) fun h=>AA wk h;refine sJ h (fun h=>?_) fun h=>AA wk h;refine⟨a0.Path.length,X10 _,?_⟩;refine⟨a0.Communities.length,X10 _,?_⟩;refine⟨_,rfl,?_⟩;refine⟨a0.JAF.length,X10 _,?_⟩;refine⟨_,rfl,?_⟩;refine⟨a0.Other.length,X10 _,?_⟩;refine⟨_,rfl,?_⟩;exact AA wk h
 rintro v2 h;cases h;exact⟨rfl,rfl⟩
theorem OJ {a0:JAE}{a1:JAG}{r:Bool×JAG}(h:Ei a0 a1=some r):yC wl 104 [AV.d (JAE.toD a0),.ref 0 0] [.box (JAG.av a1)] (.d (D.b r.1)) [.box (JAG.av r.2)]:=by
 refine oK Tryz.f104 ⟨rfl,?_⟩;unfold Ei at h;cases h;exact⟨rfl,rfl⟩
theorem C5 {a0:List JAE}{a1c0:JAG}{r:Int×JAG}(h:Aq a0 a1c0=some r):yC wl 102 [AV.d (D.l 4 JAE.toD a0),AV.fn 104 [.ref 0 0]] [.box (JAG.av a1c0)] (.d (D.i r.1)) [.box (JAG.av r.2)]:=by
 refine oK Tryz.f102 ⟨rfl,?_⟩;unfold Aq at h;refine⟨a0.length,X10 _,?_⟩;revert h;refine AG (fun v1=>⟨dd 19 ([]),yB (JAG.av v1)::nn 19 ([])⟩) ?_ ?_
 ·intro k2 h;revert h;refine Ac 6 4 JAE.toD rfl (fun i3 v4=>⟨y5 a0::AV.fn 104 [yr 0 0]::dd 4 (y5 a0::yi (a0.length:Int)::yi (i3:Int)::dd 10 ([])),yB (JAG.av v4)::nn 19 ([])⟩) ?_ ?_ ?_
  ·exact wk
  ·rintro v4 K5 h;(conv=>whnf);refine .go ?_;(conv=>whnf);refine BI Cb ?_;exact AA wk h
  rintro next6 i3 x7 v4 K5 hii3 hxi3 hwi3 h hK8;(conv=>whnf);refine .go ?_;(conv=>whnf);refine BD (CQ hii3) ?_;(conv=>whnf);refine .go ?_;refine⟨BF (f:=JAE.toD) hii3,JAE.toD x7,hxi3,rfl,?_⟩;obtain⟨⟨v9,v10⟩,g11,h⟩:=AB h;refine⟨_,_,some [],OJ g11,?_⟩;(conv=>whnf);refine .go ?_;refine sJ h ?_ ?_<;>intro h
  ·cases h;exact⟨rfl,rfl⟩
  refine⟨_,hwi3,?_⟩;exact hK8 _ _ wk h
 rintro v1 h;cases h;exact⟨rfl,rfl⟩
theorem CX {a0:List JAE}{a1c0:JAG}{r:Bool×JAG}(h:Ad a0 a1c0=some r):yC wl 53 [AV.d (D.l 4 JAE.toD a0),AV.fn 104 [.ref 0 0]] [.box (JAG.av a1c0)] (.d (D.b r.1)) [.box (JAG.av r.2)]:=by
 refine oK Tryz.f53 ⟨rfl,?_⟩;unfold Ad at h;obtain⟨⟨v1,v2⟩,g3,h⟩:=AB h;refine⟨_,_,some [],C5 g3,?_⟩;cases h;exact⟨rfl,rfl⟩
theorem QR {a0:JAG}{r:Bool}(h:HA a0=some r):yC wl 54 [AV.d (JAG.toD a0)] [] (.d (D.b r)) []:=by
 refine oK Tryz.f54 ⟨rfl,?_⟩;unfold HA at h;refine⟨a0.Announce.length,X10 _,?_⟩;(conv=>whnf);refine .go ?_;refine sJ h ?_ ?_<;>intro h
 ·obtain⟨v1,g2,h⟩:=AB h;refine⟨_,_,some [],Pz g2,?_⟩;cases h;exact⟨rfl,rfl⟩
 revert h;refine AG (fun v3=>⟨X::X::yb v3::dd 32 ([]),nn 35 ([])⟩) ?_ ?_
 ·intro k4 h;obtain⟨v5,g6,h⟩:=AB h;refine⟨_,_,some [],IC g6,?_⟩;refine sJ h (fun h=>?_) fun h=>AA wk h;refine sJ h (fun h=>?_) fun h=>AA wk h;refine sJ h (fun h=>?_) fun h=>AA wk h;obtain⟨⟨v7,v8⟩,g9,h⟩:=AB h;refine⟨_,_,some [],CX g9,?_⟩;exact AA wk h
 rintro v3 h;cases h;exact⟨rfl,rfl⟩
theorem Cj {a0:List JAE}{r:Int}(h:A4 a0=some r):yC wl 102 [AV.d (D.l 4 JAE.toD a0),AV.fn 51 []] [] (.d (D.i r)) []:=by
 refine oK Tryz.f102 ⟨rfl,?_⟩;unfold A4 at h;refine⟨a0.length,X10 _,?_⟩;revert h;refine AG (fun _=>⟨dd 19 ([]),nn 19 ([])⟩) ?_ ?_
 ·intro k1 h;revert h;refine Ac 6 4 JAE.toD rfl (fun i2 _=>⟨y5 a0::AV.fn 51 []::dd 4 (y5 a0::yi (a0.length:Int)::yi (i2:Int)::dd 10 ([])),nn 19 ([])⟩) ?_ ?_ ?_
  ·exact wk
  ·rintro _ K3 h;(conv=>whnf);refine .go ?_;(conv=>whnf);refine BI Cb ?_;exact AA wk h
  rintro next4 i2 x5 _ K3 hii2 hxi2 hwi2 h hK6;(conv=>whnf);refine .go ?_;(conv=>whnf);refine BD (CQ hii2) ?_;(conv=>whnf);refine .go ?_;refine⟨BF (f:=JAE.toD) hii2,JAE.toD x5,hxi2,rfl,?_⟩;obtain⟨v7,g8,h⟩:=AB h;refine⟨_,_,some [],M8 g8,?_⟩;(conv=>whnf);refine .go ?_;refine sJ h ?_ ?_<;>intro h
  ·cases h;exact⟨rfl,rfl⟩
  refine⟨_,hwi2,?_⟩;exact hK6 _ _ wk h
 rintro _ h;cases h;exact⟨rfl,rfl⟩
theorem BE {a0:List JAE}{r:Bool}(h:AZ a0=some r):yC wl 53 [AV.d (D.l 4 JAE.toD a0),AV.fn 51 []] [] (.d (D.b r)) []:=by
 refine oK Tryz.f53 ⟨rfl,?_⟩;unfold AZ at h;obtain⟨v1,g2,h⟩:=AB h;refine⟨_,_,some [],Cj g2,?_⟩;cases h;exact⟨rfl,rfl⟩
theorem Jw {a0:JAG}{r:Bool}(h:FQ a0=some r):yC wl 20 [AV.d (JAG.toD a0)] [] (.d (D.b r)) []:=by
 refine oK Tryz.f20 ⟨rfl,?_⟩;unfold FQ at h;revert h;refine AG (fun v1=>⟨X::yr 1 0::dd 30 (yb v1::dd 6 ([])),N::yB (JAG.av a0)::nn 37 ([])⟩) ?_ ?_
 ·intro k2 h;refine⟨a0.Withdraw.length,X10 _,?_⟩;refine sJ h (fun h=>AA wk h) fun h=>?_;refine⟨a0.Announce.length,X10 _,?_⟩;refine sJ h (fun h=>AA wk h) fun h=>?_;obtain⟨v3,g4,h⟩:=AB h;refine⟨_,_,some [],BE g4,?_⟩;refine sJ h (fun h=>AA wk h) fun h=>?_;obtain⟨v5,g6,h⟩:=AB h;refine⟨_,_,some [],BE g6,?_⟩;refine sJ h (fun h=>AA wk h) fun h=>?_;obtain⟨v7,g8,h⟩:=AB h;refine⟨_,_,some [],QR g8,?_⟩;exact AA wk h
 rintro v1 h;(conv=>whnf);refine .go ?_;refine sJ h ?_ ?_<;>intro h
 ·cases h;exact⟨rfl,rfl⟩
 obtain⟨⟨v9,v10⟩,g11,h⟩:=AB h;refine⟨_,_,some [],Hz g11,?_⟩;cases h;exact⟨rfl,rfl⟩
theorem It {a0:JAG}{r:(List UInt8)×Int}(h:D9 a0=some r):yC wl 18 [AV.d (JAG.toD a0)] [] (.tup [.d (D.l 1 D.u8 r.1),.d (D.i r.2)]) []:=by
 refine oK Tryz.f18 ⟨rfl,?_⟩;unfold D9 at h;obtain⟨v1,g2,h⟩:=AB h;refine⟨_,_,some [],Jw g2,?_⟩;(conv=>whnf);refine .go ?_;refine sJ h ?_ ?_<;>intro h
 ·cases h;exact⟨rfl,rfl⟩
 obtain⟨⟨v3,v4⟩,g5,h⟩:=AB h;refine⟨_,_,some [],Hz g5,?_⟩;cases h;exact⟨rfl,rfl⟩
theorem Re {a0:JAG}{r:Int}(h:GE a0=some r):yC wl 22 [AV.d (JAG.toD a0)] [] (.d (D.i r)) []:=by
 refine oK Tryz.f22 ⟨rfl,?_⟩;unfold GE at h;obtain⟨v1,g2,h⟩:=AB h;refine⟨_,_,some [],Jw g2,?_⟩;(conv=>whnf);refine .go ?_;refine sJ h ?_ ?_<;>intro h
 ·cases h;exact⟨rfl,rfl⟩
 obtain⟨⟨v3,v4⟩,g5,h⟩:=AB h;refine⟨_,_,some [],Hz g5,?_⟩;refine⟨v3.length,X10 _,?_⟩;refine⟨_,rfl,?_⟩;cases h;exact⟨rfl,rfl⟩
theorem Lh {a0:List JAA}{r:(List JAA)}(h:Dc a0=some r):yC wl 113 [AV.d (D.l 3 JAA.toD a0)] [] (.d (D.l 3 JAA.toD r)) []:=by
 refine oK Tryz.f113 ⟨rfl,?_⟩;unfold Dc at h;refine⟨a0.length,X10 _,?_⟩;revert h;refine AG (fun v1=>⟨dd 4 (yO 4 JAA.toD v1::dd 23 ([])),nn 4 (yR 88 3 JAA.toD v1::nn 23 ([]))⟩) ?_ ?_
 ·intro k2 h;revert h;refine Ac 8 3 JAA.toD rfl (fun i3 (v4,v5)=>⟨X::X::X::AV.mp 7::yO 4 JAA.toD v5::X::X::X::y4 a0::yi (a0.length:Int)::yi (i3:Int)::dd 17 ([]),nn 4 (yR 88 3 JAA.toD v5::N::N::some (OB.map 3 4 (Bn D.i D.b v4))::nn 20 ([]))⟩) ?_ ?_ ?_
  ·exact wk
  ·rintro⟨v4,v5⟩ K6 h;(conv=>whnf);refine .go ?_;(conv=>whnf);refine BI Cb ?_;exact AA wk h
  rintro next7 i3 x8 ⟨v4,v5⟩ K6 hii3 hxi3 hwi3 h hK9;(conv=>whnf);refine .go ?_;(conv=>whnf);refine BD (CQ hii3) ?_;(conv=>whnf);refine .go ?_;refine⟨BF (f:=JAA.toD) hii3,JAA.toD x8,hxi3,rfl,?_⟩;obtain⟨v10,g11,h⟩:=AB h;refine⟨_,BX (ek:=D.i) (ev:=D.b) (l:=v4) (k:=x8.Type_) BL,D.b v10,D7 (z:=false) rfl g11,_,rfl,?_⟩;revert h;refine AG (fun v12=>⟨X::X::X::AV.mp 7::yO 4 JAA.toD v12::X::yr 6 0::X::y4 a0::yi (a0.length:Int)::yi (i3:Int)::dd 17 ([]),nn 4 (yR 88 3 JAA.toD v12::N::yB (JAA.av x8)::some (OB.map 3 4 (Bn D.i D.b v4))::nn 20 ([]))⟩) ?_ ?_
  ·intro k13 h;refine sJ h (fun h=>?_) fun h=>AA wk h;refine⟨rfl,?_⟩;obtain⟨v14,g15,h⟩:=AB h;refine⟨rfl,Ab (f:=JAA.toD) (g:=JAA.toD) g15,_,Ag (f:=JAA.toD) g15,?_⟩;exact AA wk h
  rintro v12 h;refine⟨_,Ej (ek:=D.i) (ev:=D.b) (l:=v4) (k:=x8.Type_) (v:=true) BL,?_⟩;refine⟨_,hwi3,?_⟩;exact hK9 _ _ wk h
 rintro v1 h;(conv=>whnf);refine .inl ?_;(conv=>whnf);refine .inl ?_;refine⟨rfl,?_⟩;cases h;exact⟨rfl,rfl⟩
theorem LZ {a0:JAA}{r:Bool}(h:Df a0=some r):yC wl 115 [AV.d (JAA.toD a0)] [] (.d (D.b r)) []:=by
 refine oK Tryz.f115 ⟨rfl,?_⟩;unfold Df at h;revert h;refine AG (fun v1=>⟨X::X::yb v1::dd 9 ([]),nn 12 ([])⟩) ?_ ?_
 ·intro k2 h;obtain⟨v3,g4,h⟩:=AB h;refine⟨_,_,some [],FD g4,?_⟩;refine sJ h (fun h=>?_) fun h=>AA wk h;refine⟨_,rfl,?_⟩;exact AA wk h
 rintro v1 h;cases h;exact⟨rfl,rfl⟩
theorem Bf {a0:JAA}{r:Bool}(h:BH a0=some r):yC wl 148 [AV.d (JAA.toD a0)] [] (.d (D.b r)) []:=by
 refine oK Tryz.f148 ⟨rfl,?_⟩;unfold BH at h;revert h;refine AG (fun v1=>⟨X::X::yb v1::dd 22 ([]),nn 25 ([])⟩) ?_ ?_
 ·intro k2 h;obtain⟨v3,g4,h⟩:=AB h;refine⟨_,BX (ek:=D.i) (ev:=D.i) (l:=Bo) (k:=a0.Type_) BL,D.i v3,D7 (z:=0) rfl g4,_,rfl,?_⟩;refine⟨_,rfl,?_⟩;refine⟨_,rfl,?_⟩;refine sJ h (fun h=>?_) fun h=>AA wk h;obtain⟨v5,g6,h⟩:=AB h;refine⟨_,BX (ek:=D.i) (ev:=D.i) (l:=Bo) (k:=a0.Type_) BL,D.i v5,D7 (z:=0) rfl g6,_,rfl,?_⟩;refine sJ h (fun h=>AA wk h) fun h=>?_;refine⟨_,rfl,?_⟩;exact AA wk h
 rintro v1 h;cases h;exact⟨rfl,rfl⟩
theorem CZ {a0:List UInt8}{r:Int}(h:B0 a0=some r):yC wl 143 [AV.d (D.l 1 D.u8 a0)] [] (.d (D.i r)) []:=by
 refine oK Tryz.f143 ⟨rfl,?_⟩;unfold B0 at h;refine⟨a0.length,X10 _,?_⟩;revert h;refine AG (fun v1=>⟨X::X::X::yi v1::dd 15 ([]),nn 19 ([])⟩) ?_ ?_
 ·intro k2 h;revert h;refine Ac 6 1 D.u8 rfl (fun i3 v4=>⟨X::X::X::yi v4::X::X::y3 a0::yi (a0.length:Int)::yi (i3:Int)::dd 10 ([]),nn 19 ([])⟩) ?_ ?_ ?_
  ·exact wk
  ·rintro v4 K5 h;(conv=>whnf);refine .go ?_;(conv=>whnf);refine BI Cb ?_;exact AA wk h
  rintro next6 i3 x7 v4 K5 hii3 hxi3 hwi3 h hK8;(conv=>whnf);refine .go ?_;(conv=>whnf);refine BD (CQ hii3) ?_;(conv=>whnf);refine .go ?_;refine⟨BF (f:=D.u8) hii3,D.u8 x7,hxi3,rfl,?_⟩;refine⟨by decide,_,rfl,?_⟩;refine⟨_,FO x7,?_⟩;refine⟨_,rfl,?_⟩;refine⟨_,hwi3,?_⟩;exact hK8 _ _ wk h
 rintro v1 h;cases h;exact⟨rfl,rfl⟩
theorem E9 {a0:List UInt8}{r:(List Int)}(h:CH a0=some r):yC wl 217 [AV.d (D.l 1 D.u8 a0)] [] (AV.own 0 (List.map D.i r).length) [.row 3 1 (List.map D.i r) .no]:=by
 refine oK Tryz.f217 ⟨rfl,?_⟩;unfold CH at h;revert h;refine AG (fun v1=>⟨X::X::X::yO 3 D.i v1::dd 12 ([]),N::N::N::yR 3 1 D.i v1::nn 12 ([])⟩) ?_ ?_
 ·intro k2 h;revert h;refine Aw (fun (v3,v4)=>⟨y3 v3::X::X::yO 3 D.i v4::dd 12 ([]),N::N::N::yR 3 1 D.i v4::nn 12 ([])⟩) ?_ ?_
  ·exact wk
  rintro next5 ⟨v3,v4⟩ K6 h hK7;refine⟨v3.length,X10 _,?_⟩;(conv=>whnf);refine .go ?_;refine sJ h (fun h=>?_) fun h=>AA wk h;(conv=>whnf);refine .go ?_;obtain⟨v8,g9,h⟩:=AB h;refine⟨Fe (f:=D.u8) g9,_,EL (f:=D.u8) g9,?_⟩;obtain⟨v10,g11,h⟩:=AB h;refine⟨_,_,some [],CZ g11,?_⟩;refine⟨rfl,?_⟩;obtain⟨v12,g13,h⟩:=AB h;refine⟨rfl,Ab (f:=D.i) (g:=D.i) g13,_,Ag (f:=D.i) g13,?_⟩;obtain⟨v14,g15,h⟩:=AB h;refine⟨Gj (f:=D.u8) g15,_,Gf (f:=D.u8) g15,?_⟩;exact hK7 _ _ wk h
 rintro v1 h;(conv=>whnf);refine .inl ?_;(conv=>whnf);refine .inr ?_;cases h;exact⟨rfl,rfl⟩
theorem IN {a0:List Int}{r:(List Int)}(h:Bh a0=some r):yC wl 219 [AV.own 0 (List.map D.i a0).length] [.row 3 1 (List.map D.i a0) .no] (AV.own 1 (List.map D.i r).length) [.gone,.row 3 1 (List.map D.i r) .no]:=by
 refine oK Tryz.f219 ⟨rfl,?_⟩;unfold Bh at h;refine⟨a0.length,by first | exact X10 _ | rfl | (simp only[X10];omega),?_⟩;(conv=>whnf);refine .go ?_;refine sJ h ?_ ?_<;>intro h
 ·(conv=>whnf);refine .inr ?_;cases h;exact⟨rfl,rfl⟩
 revert h;refine AG (fun _=>⟨yO 0 D.i a0::dd 60 ([]),yR 3 1 D.i a0::nn 61 ([])⟩) ?_ ?_
 ·intro k1 h;revert h;refine Aw (fun v2=>⟨yO 0 D.i a0::X::X::yi v2::dd 57 ([]),yR 3 1 D.i a0::nn 61 ([])⟩) ?_ ?_
  ·exact wk
  rintro next3 v2 K4 h hK5;refine⟨a0.length,by first | exact X10 _ | rfl | (simp only[X10];omega),?_⟩;(conv=>whnf);refine .go ?_;refine sJ h (fun h=>?_) fun h=>AA wk h;revert h;refine AG (fun _=>⟨yO 0 D.i a0::X::X::yi v2::dd 57 ([]),yR 3 1 D.i a0::nn 61 ([])⟩) ?_ ?_
  ·intro k6 h;(conv=>whnf);refine .inl (dO ?_);obtain⟨v7,g8,h⟩:=AB h;refine⟨rfl,Ah (f:=D.i) g8,?_⟩;refine⟨rfl,D.i v7,(Aj (f:=D.i) g8),?_⟩;refine⟨_,rfl,?_⟩;obtain⟨v9,g10,h⟩:=AB h;refine⟨rfl,Ah (f:=D.i) g10,?_⟩;refine⟨rfl,D.i v9,(Aj (f:=D.i) g10),?_⟩;(conv=>whnf);refine cO ?_;(conv=>whnf);refine .go ?_;refine sJ h (fun h=>?_) fun h=>AA wk h;(conv=>whnf);refine .inr (.inl ?_);obtain⟨_,g11,h⟩:=AB h;have g56c:=Em g11;refine⟨JY (f:=D.i) g11,rfl,(Int.toNat v2),(Int.toNat (a0.length:Int)-Int.toNat v2),rfl,(by rw[X10]),?_⟩;revert h;refine AG (fun (v12,v13)=>⟨yO 0 D.i v13::X::X::yi v12::dd 57 ([]),yR 3 1 D.i v13::nn 61 ([])⟩) ?_ ?_
   ·intro k14 h;revert h;refine Aw (fun (v15,v16,v17)=>⟨yO 0 D.i v17::X::X::yi v15::AV.osl 0 (Int.toNat v2) (Int.toNat (a0.length:Int)-Int.toNat v2) (List.map D.i v17).length::yi v16::dd 55 ([]),yR 3 1 D.i v17::nn 61 ([])⟩) ?_ ?_
    ·exact wk
    rintro next18 ⟨v15,v16,v17⟩ K19 h hK20;refine⟨(Int.toNat (a0.length:Int)-Int.toNat v2),rfl,?_⟩;(conv=>whnf);refine .go ?_;refine sJ h (fun h=>?_) fun h=>AA wk h;(conv=>whnf);refine .go ?_;(conv=>whnf);refine .inl (dO ?_);obtain⟨v21,g22,h⟩:=AB h;refine⟨(by first | rfl | (simp only[X10,X21];omega)|(simp only[cpy,X10,X21,X11,X18,X17,X20];omega)),Jc g22,_,rfl,?_⟩;refine⟨rfl,D.i v21,(Jn (f:=D.i) g22),?_⟩;refine⟨_,rfl,?_⟩;obtain⟨v23,g24,h⟩:=AB h;refine⟨(by first | rfl | (simp only[X10,X21];omega)|(simp only[cpy,X10,X21,X11,X18,X17,X20];omega)),Jc g24,_,rfl,?_⟩;refine⟨rfl,D.i v23,(Jn (f:=D.i) g24),?_⟩;(conv=>whnf);refine cO ?_;revert h;refine AG (fun (v25,v26)=>⟨yO 0 D.i v26::X::X::yi v25::AV.osl 0 (Int.toNat v2) (Int.toNat (a0.length:Int)-Int.toNat v2) (List.map D.i v26).length::yi v16::dd 55 ([]),yR 3 1 D.i v26::nn 61 ([])⟩) ?_ ?_
    ·intro k27 h;refine sJ h (fun h=>?_) fun h=>AA wk h;obtain⟨v28,g29,h⟩:=AB h;refine⟨(by first | rfl | (simp only[X10,X21];omega)|(simp only[cpy,X10,X21,X11,X18,X17,X20];omega)),Jc g29,_,rfl,?_⟩;refine⟨rfl,D.i v28,(Jn (f:=D.i) g29),?_⟩;obtain⟨v30,g31,h⟩:=AB h;refine⟨rfl,Ah (f:=D.i) g31,?_⟩;obtain⟨v32,g33,h⟩:=AB h;have g33l:=I6 g33;refine⟨rfl,rfl,D.i v30,(Aj (f:=D.i) g31),?_⟩;refine⟨_,O2 (f:=D.i) g33,?_⟩;refine⟨_,rfl,?_⟩;exact AA wk h
    rintro⟨v25,v26⟩ h;refine⟨_,rfl,?_⟩;exact hK20 _ _ wk h
   rintro⟨v12,v13⟩ h;(conv=>whnf);refine .inr (.inl ?_);obtain⟨_,g34,h⟩:=AB h;have g96c:=Em g34;refine⟨JY (f:=D.i) g34,rfl,(Int.toNat v12),(Int.toNat (v13.length:Int)-Int.toNat v12),rfl,(by rw[X10]),?_⟩;refine⟨(by first | rfl | (simp only[X10,X21];omega)|(simp only[cpy,X10,X21,X11,X18,X17,X20];omega)),D.i 0,rfl,List.map D.i (List.take (Int.toNat v12) v13++List.replicate (Int.toNat (v13.length:Int)-Int.toNat v12) 0++List.drop ((Int.toNat v12)+(Int.toNat (v13.length:Int)-Int.toNat v12)) v13),UG,?_⟩;(conv=>whnf);refine .inr (.inr ?_);obtain⟨v35,g36,h⟩:=AB h;refine⟨QW (f:=D.i) g36,(by first | rfl | (simp only[X10];omega)|(simp only[cpy,X10,X21,X11,X18,X17,X20];omega)),_,EL (f:=D.i) g36,?_⟩;(conv=>whnf);refine .inl ?_;(conv=>whnf);refine .inr ?_;cases h;exact⟨rfl,rfl⟩
  rintro _ h;refine⟨_,rfl,?_⟩;exact hK5 _ _ wk h
 rintro _ h;(conv=>whnf);refine .inr ?_;cases h;exact⟨rfl,rfl⟩
theorem Ge {a0:List UInt8}{r:Addr×Int}(h:A5 a0=some r):yC wl 145 [AV.d (D.l 1 D.u8 a0)] [] (.tup [.d (Addr.toD r.1),.d (D.i r.2)]) []:=by
 refine oK Tryz.f145 ⟨rfl,?_⟩;unfold A5 at h;revert h;refine AG (fun v1=>⟨y3 a0::X::yr 2 0::dd 11 (yb v1::dd 28 ([])),N::N::yB Addr.zv::nn 40 ([])⟩) ?_ ?_
 ·intro k2 h;refine⟨a0.length,X10 _,?_⟩;refine sJ h (fun h=>?_) fun h=>AA wk h;refine⟨a0.length,X10 _,?_⟩;exact AA wk h
 rintro v1 h;(conv=>whnf);refine .go ?_;refine sJ h ?_ ?_<;>intro h
 ·cases h;exact⟨rfl,rfl⟩
 refine⟨a0.length,X10 _,?_⟩;refine⟨a0.length,X10 _,?_⟩;revert h;refine AG (fun v3=>⟨X::X::yr 2 0::X::yr 4 0::dd 38 ([]),N::N::yB Addr.zv::N::yB (Addr.av v3)::nn 38 ([])⟩) ?_ ?_
 ·intro k4 h;revert h;refine Ac 20 1 D.u8 rfl (fun i5 v6=>⟨X::X::yr 2 0::X::yr 4 0::dd 15 (y3 a0::yi (a0.length:Int)::yi (i5:Int)::dd 20 ([])),N::N::yB Addr.zv::N::yB (Addr.av v6)::nn 38 ([])⟩) ?_ ?_ ?_
  ·exact wk
  ·rintro v6 K7 h;(conv=>whnf);refine .go ?_;(conv=>whnf);refine BI Cb ?_;exact AA wk h
  rintro next8 i5 x9 v6 K7 hii5 hxi5 hwi5 h hK10;(conv=>whnf);refine .go ?_;(conv=>whnf);refine BD (CQ hii5) ?_;(conv=>whnf);refine .go ?_;refine⟨BF (f:=D.u8) hii5,D.u8 x9,hxi5,rfl,?_⟩;refine⟨by decide,_,Av _,?_⟩;refine⟨by decide,_,Np v6.Lo _,?_⟩;refine⟨_,Av _,?_⟩;refine⟨by decide,_,Av _,?_⟩;refine⟨_,Av _,?_⟩;refine⟨_,Av _,?_⟩;refine⟨_,hwi5,?_⟩;exact hK10 _ _ wk h
 rintro v3 h;cases h;exact⟨rfl,rfl⟩
theorem EB {a0:List JAB}{r:(List JAB)}(h:Ax a0=some r):yC wl 226 [AV.own 0 (List.map JAB.toD a0).length] [.row 137 2 (List.map JAB.toD a0) .no] (AV.own 1 (List.map JAB.toD r).length) [.gone,.row 137 2 (List.map JAB.toD r) .no]:=by
 refine oK Tryz.f226 ⟨rfl,?_⟩;unfold Ax at h;refine⟨a0.length,by first | exact X10 _ | rfl | (simp only[X10];omega),?_⟩;(conv=>whnf);refine .go ?_;refine sJ h ?_ ?_<;>intro h
 ·(conv=>whnf);refine .inr ?_;cases h;exact⟨rfl,rfl⟩
 revert h;refine AG (fun _=>⟨yO 0 JAB.toD a0::dd 60 ([]),yR 137 2 JAB.toD a0::nn 61 ([])⟩) ?_ ?_
 ·intro k1 h;revert h;refine Aw (fun v2=>⟨yO 0 JAB.toD a0::X::X::yi v2::dd 57 ([]),yR 137 2 JAB.toD a0::nn 61 ([])⟩) ?_ ?_
  ·exact wk
  rintro next3 v2 K4 h hK5;refine⟨a0.length,by first | exact X10 _ | rfl | (simp only[X10];omega),?_⟩;(conv=>whnf);refine .go ?_;refine sJ h (fun h=>?_) fun h=>AA wk h;revert h;refine AG (fun _=>⟨yO 0 JAB.toD a0::X::X::yi v2::dd 57 ([]),yR 137 2 JAB.toD a0::nn 61 ([])⟩) ?_ ?_
  ·intro k6 h;(conv=>whnf);refine .inl (dO ?_);obtain⟨v7,g8,h⟩:=AB h;refine⟨rfl,Ah (f:=JAB.toD) g8,?_⟩;refine⟨rfl,JAB.toD v7,(Aj (f:=JAB.toD) g8),?_⟩;refine⟨_,rfl,?_⟩;obtain⟨v9,g10,h⟩:=AB h;refine⟨rfl,Ah (f:=JAB.toD) g10,?_⟩;refine⟨rfl,JAB.toD v9,(Aj (f:=JAB.toD) g10),?_⟩;(conv=>whnf);refine cO ?_;(conv=>whnf);refine .go ?_;refine sJ h (fun h=>?_) fun h=>AA wk h;(conv=>whnf);refine .inr (.inl ?_);obtain⟨_,g11,h⟩:=AB h;have g56c:=Em g11;refine⟨JY (f:=JAB.toD) g11,rfl,(Int.toNat v2),(Int.toNat (a0.length:Int)-Int.toNat v2),rfl,(by rw[X10]),?_⟩;revert h;refine AG (fun (v12,v13)=>⟨yO 0 JAB.toD v13::X::X::yi v12::dd 57 ([]),yR 137 2 JAB.toD v13::nn 61 ([])⟩) ?_ ?_
   ·intro k14 h;revert h;refine Aw (fun (v15,v16,v17)=>⟨yO 0 JAB.toD v17::X::X::yi v15::AV.osl 0 (Int.toNat v2) (Int.toNat (a0.length:Int)-Int.toNat v2) (List.map JAB.toD v17).length::yi v16::dd 55 ([]),yR 137 2 JAB.toD v17::nn 61 ([])⟩) ?_ ?_
    ·exact wk
    rintro next18 ⟨v15,v16,v17⟩ K19 h hK20;refine⟨(Int.toNat (a0.length:Int)-Int.toNat v2),rfl,?_⟩;(conv=>whnf);refine .go ?_;refine sJ h (fun h=>?_) fun h=>AA wk h;(conv=>whnf);refine .go ?_;(conv=>whnf);refine .inl (dO ?_);obtain⟨v21,g22,h⟩:=AB h;refine⟨(by first | rfl | (simp only[X10,X21];omega)|(simp only[cpy,X10,X21,X11,X18,X17,X20];omega)),Jc g22,_,rfl,?_⟩;refine⟨rfl,JAB.toD v21,(Jn (f:=JAB.toD) g22),?_⟩;refine⟨_,rfl,?_⟩;obtain⟨v23,g24,h⟩:=AB h;refine⟨(by first | rfl | (simp only[X10,X21];omega)|(simp only[cpy,X10,X21,X11,X18,X17,X20];omega)),Jc g24,_,rfl,?_⟩;refine⟨rfl,JAB.toD v23,(Jn (f:=JAB.toD) g24),?_⟩;(conv=>whnf);refine cO ?_;revert h;refine AG (fun (v25,v26)=>⟨yO 0 JAB.toD v26::X::X::yi v25::AV.osl 0 (Int.toNat v2) (Int.toNat (a0.length:Int)-Int.toNat v2) (List.map JAB.toD v26).length::yi v16::dd 55 ([]),yR 137 2 JAB.toD v26::nn 61 ([])⟩) ?_ ?_
    ·intro k27 h;refine sJ h (fun h=>?_) fun h=>AA wk h;obtain⟨v28,g29,h⟩:=AB h;refine⟨(by first | rfl | (simp only[X10,X21];omega)|(simp only[cpy,X10,X21,X11,X18,X17,X20];omega)),Jc g29,_,rfl,?_⟩;refine⟨rfl,JAB.toD v28,(Jn (f:=JAB.toD) g29),?_⟩;obtain⟨v30,g31,h⟩:=AB h;refine⟨rfl,Ah (f:=JAB.toD) g31,?_⟩;obtain⟨v32,g33,h⟩:=AB h;have g33l:=I6 g33;refine⟨rfl,rfl,JAB.toD v30,(Aj (f:=JAB.toD) g31),?_⟩;refine⟨_,O2 (f:=JAB.toD) g33,?_⟩;refine⟨_,rfl,?_⟩;exact AA wk h
    rintro⟨v25,v26⟩ h;refine⟨_,rfl,?_⟩;exact hK20 _ _ wk h
   rintro⟨v12,v13⟩ h;(conv=>whnf);refine .inr (.inl ?_);obtain⟨_,g34,h⟩:=AB h;have g96c:=Em g34;refine⟨JY (f:=JAB.toD) g34,rfl,(Int.toNat v12),(Int.toNat (v13.length:Int)-Int.toNat v12),rfl,(by rw[X10]),?_⟩;refine⟨(by first | rfl | (simp only[X10,X21];omega)|(simp only[cpy,X10,X21,X11,X18,X17,X20];omega)),JAB.toD (⟨0,0⟩:JAB),rfl,List.map JAB.toD (List.take (Int.toNat v12) v13++List.replicate (Int.toNat (v13.length:Int)-Int.toNat v12) (⟨0,0⟩:JAB)++List.drop ((Int.toNat v12)+(Int.toNat (v13.length:Int)-Int.toNat v12)) v13),UG,?_⟩;(conv=>whnf);refine .inr (.inr ?_);obtain⟨v35,g36,h⟩:=AB h;refine⟨QW (f:=JAB.toD) g36,(by first | rfl | (simp only[X10];omega)|(simp only[cpy,X10,X21,X11,X18,X17,X20];omega)),_,EL (f:=JAB.toD) g36,?_⟩;(conv=>whnf);refine .inl ?_;(conv=>whnf);refine .inr ?_;cases h;exact⟨rfl,rfl⟩
  rintro _ h;refine⟨_,rfl,?_⟩;exact hK5 _ _ wk h
 rintro _ h;(conv=>whnf);refine .inr ?_;cases h;exact⟨rfl,rfl⟩
theorem G2 {a0:JAB}{a1:JAB}{r:Int}(h:BW a0 a1=some r):yC wl 221 [AV.d (JAB.toD a0),AV.d (JAB.toD a1)] [] (.d (D.i r)) []:=by
 refine oK Tryz.f221 ⟨rfl,?_⟩;unfold BW at h;(conv=>whnf);refine .inl (dO ?_);obtain⟨v1,g2,h⟩:=AB h;refine⟨_,_,A1 g2,.inl rfl,?_⟩;obtain⟨v3,g4,h⟩:=AB h;refine⟨_,_,A1 g4,.inl rfl,?_⟩;refine⟨rfl,?_⟩;obtain⟨v5,g6,h⟩:=AB h;refine⟨_,_,G8 g6,.inl rfl,?_⟩;(conv=>whnf);refine cO ?_;cases h;exact⟨rfl,rfl⟩
theorem FR {a0:List JAF}{r:(List JAF)}(h:BA a0=some r):yC wl 228 [AV.own 0 (List.map JAF.toD a0).length] [.row 141 3 (List.map JAF.toD a0) .no] (AV.own 1 (List.map JAF.toD r).length) [.gone,.row 141 3 (List.map JAF.toD r) .no]:=by
 refine oK Tryz.f228 ⟨rfl,?_⟩;unfold BA at h;refine⟨a0.length,by first | exact X10 _ | rfl | (simp only[X10];omega),?_⟩;(conv=>whnf);refine .go ?_;refine sJ h ?_ ?_<;>intro h
 ·(conv=>whnf);refine .inr ?_;cases h;exact⟨rfl,rfl⟩
 revert h;refine AG (fun _=>⟨yO 0 JAF.toD a0::dd 60 ([]),yR 141 3 JAF.toD a0::nn 61 ([])⟩) ?_ ?_
 ·intro k1 h;revert h;refine Aw (fun v2=>⟨yO 0 JAF.toD a0::X::X::yi v2::dd 57 ([]),yR 141 3 JAF.toD a0::nn 61 ([])⟩) ?_ ?_
  ·exact wk
  rintro next3 v2 K4 h hK5;refine⟨a0.length,by first | exact X10 _ | rfl | (simp only[X10];omega),?_⟩;(conv=>whnf);refine .go ?_;refine sJ h (fun h=>?_) fun h=>AA wk h;revert h;refine AG (fun _=>⟨yO 0 JAF.toD a0::X::X::yi v2::dd 57 ([]),yR 141 3 JAF.toD a0::nn 61 ([])⟩) ?_ ?_
  ·intro k6 h;(conv=>whnf);refine .inl (dO ?_);obtain⟨v7,g8,h⟩:=AB h;refine⟨rfl,Ah (f:=JAF.toD) g8,?_⟩;refine⟨rfl,JAF.toD v7,(Aj (f:=JAF.toD) g8),?_⟩;refine⟨_,rfl,?_⟩;obtain⟨v9,g10,h⟩:=AB h;refine⟨rfl,Ah (f:=JAF.toD) g10,?_⟩;refine⟨rfl,JAF.toD v9,(Aj (f:=JAF.toD) g10),?_⟩;(conv=>whnf);refine cO ?_;(conv=>whnf);refine .go ?_;refine sJ h (fun h=>?_) fun h=>AA wk h;(conv=>whnf);refine .inr (.inl ?_);obtain⟨_,g11,h⟩:=AB h;have g56c:=Em g11;refine⟨JY (f:=JAF.toD) g11,rfl,(Int.toNat v2),(Int.toNat (a0.length:Int)-Int.toNat v2),rfl,(by rw[X10]),?_⟩;revert h;refine AG (fun (v12,v13)=>⟨yO 0 JAF.toD v13::X::X::yi v12::dd 57 ([]),yR 141 3 JAF.toD v13::nn 61 ([])⟩) ?_ ?_
   ·intro k14 h;revert h;refine Aw (fun (v15,v16,v17)=>⟨yO 0 JAF.toD v17::X::X::yi v15::AV.osl 0 (Int.toNat v2) (Int.toNat (a0.length:Int)-Int.toNat v2) (List.map JAF.toD v17).length::yi v16::dd 55 ([]),yR 141 3 JAF.toD v17::nn 61 ([])⟩) ?_ ?_
    ·exact wk
    rintro next18 ⟨v15,v16,v17⟩ K19 h hK20;refine⟨(Int.toNat (a0.length:Int)-Int.toNat v2),rfl,?_⟩;(conv=>whnf);refine .go ?_;refine sJ h (fun h=>?_) fun h=>AA wk h;(conv=>whnf);refine .go ?_;(conv=>whnf);refine .inl (dO ?_);obtain⟨v21,g22,h⟩:=AB h;refine⟨(by first | rfl | (simp only[X10,X21];omega)|(simp only[cpy,X10,X21,X11,X18,X17,X20];omega)),Jc g22,_,rfl,?_⟩;refine⟨rfl,JAF.toD v21,(Jn (f:=JAF.toD) g22),?_⟩;refine⟨_,rfl,?_⟩;obtain⟨v23,g24,h⟩:=AB h;refine⟨(by first | rfl | (simp only[X10,X21];omega)|(simp only[cpy,X10,X21,X11,X18,X17,X20];omega)),Jc g24,_,rfl,?_⟩;refine⟨rfl,JAF.toD v23,(Jn (f:=JAF.toD) g24),?_⟩;(conv=>whnf);refine cO ?_;revert h;refine AG (fun (v25,v26)=>⟨yO 0 JAF.toD v26::X::X::yi v25::AV.osl 0 (Int.toNat v2) (Int.toNat (a0.length:Int)-Int.toNat v2) (List.map JAF.toD v26).length::yi v16::dd 55 ([]),yR 141 3 JAF.toD v26::nn 61 ([])⟩) ?_ ?_
    ·intro k27 h;refine sJ h (fun h=>?_) fun h=>AA wk h;obtain⟨v28,g29,h⟩:=AB h;refine⟨(by first | rfl | (simp only[X10,X21];omega)|(simp only[cpy,X10,X21,X11,X18,X17,X20];omega)),Jc g29,_,rfl,?_⟩;refine⟨rfl,JAF.toD v28,(Jn (f:=JAF.toD) g29),?_⟩;obtain⟨v30,g31,h⟩:=AB h;refine⟨rfl,Ah (f:=JAF.toD) g31,?_⟩;obtain⟨v32,g33,h⟩:=AB h;have g33l:=I6 g33;refine⟨rfl,rfl,JAF.toD v30,(Aj (f:=JAF.toD) g31),?_⟩;refine⟨_,O2 (f:=JAF.toD) g33,?_⟩;refine⟨_,rfl,?_⟩;exact AA wk h
    rintro⟨v25,v26⟩ h;refine⟨_,rfl,?_⟩;exact hK20 _ _ wk h
   rintro⟨v12,v13⟩ h;(conv=>whnf);refine .inr (.inl ?_);obtain⟨_,g34,h⟩:=AB h;have g96c:=Em g34;refine⟨JY (f:=JAF.toD) g34,rfl,(Int.toNat v12),(Int.toNat (v13.length:Int)-Int.toNat v12),rfl,(by rw[X10]),?_⟩;refine⟨(by first | rfl | (simp only[X10,X21];omega)|(simp only[cpy,X10,X21,X11,X18,X17,X20];omega)),JAF.toD (⟨0,0,0⟩:JAF),rfl,List.map JAF.toD (List.take (Int.toNat v12) v13++List.replicate (Int.toNat (v13.length:Int)-Int.toNat v12) (⟨0,0,0⟩:JAF)++List.drop ((Int.toNat v12)+(Int.toNat (v13.length:Int)-Int.toNat v12)) v13),UG,?_⟩;(conv=>whnf);refine .inr (.inr ?_);obtain⟨v35,g36,h⟩:=AB h;refine⟨QW (f:=JAF.toD) g36,(by first | rfl | (simp only[X10];omega)|(simp only[cpy,X10,X21,X11,X18,X17,X20];omega)),_,EL (f:=JAF.toD) g36,?_⟩;(conv=>whnf);refine .inl ?_;(conv=>whnf);refine .inr ?_;cases h;exact⟨rfl,rfl⟩
  rintro _ h;refine⟨_,rfl,?_⟩;exact hK5 _ _ wk h
 rintro _ h;(conv=>whnf);refine .inr ?_;cases h;exact⟨rfl,rfl⟩
theorem Ii {a0:JAF}{a1:JAF}{r:Int}(h:CU a0 a1=some r):yC wl 223 [AV.d (JAF.toD a0),AV.d (JAF.toD a1)] [] (.d (D.i r)) []:=by
 refine oK Tryz.f223 ⟨rfl,?_⟩;unfold CU at h;(conv=>whnf);refine .inl (dO ?_);obtain⟨v1,g2,h⟩:=AB h;refine⟨_,_,A1 g2,.inl rfl,?_⟩;obtain⟨v3,g4,h⟩:=AB h;refine⟨_,_,A1 g4,.inl rfl,?_⟩;obtain⟨v5,g6,h⟩:=AB h;refine⟨_,_,A1 g6,.inl rfl,?_⟩;refine⟨rfl,?_⟩;obtain⟨v7,g8,h⟩:=AB h;refine⟨_,_,G8 g8,.inl rfl,?_⟩;(conv=>whnf);refine cO ?_;cases h;exact⟨rfl,rfl⟩
theorem Le {a0:JAA}{a1:JAA}{r:Int}(h:DX a0 a1=some r):yC wl 121 [AV.d (JAA.toD a0),AV.d (JAA.toD a1)] [] (.d (D.i r)) []:=by
 refine oK Tryz.f121 ⟨rfl,?_⟩;unfold DX at h;obtain⟨v1,g2,h⟩:=AB h;refine⟨_,_,some [],A1 g2,?_⟩;cases h;exact⟨rfl,rfl⟩
theorem CO {a0:List JAA}{r:Int}(h:A2 a0=some r):yC wl 147 [AV.d (D.l 3 JAA.toD a0),AV.fn 115 []] [] (.d (D.i r)) []:=by
 refine oK Tryz.f147 ⟨rfl,?_⟩;unfold A2 at h;refine⟨a0.length,X10 _,?_⟩;revert h;refine AG (fun _=>⟨dd 19 ([]),nn 19 ([])⟩) ?_ ?_
 ·intro k1 h;revert h;refine Ac 6 3 JAA.toD rfl (fun i2 _=>⟨y4 a0::AV.fn 115 []::dd 4 (y4 a0::yi (a0.length:Int)::yi (i2:Int)::dd 10 ([])),nn 19 ([])⟩) ?_ ?_ ?_
  ·exact wk
  ·rintro _ K3 h;(conv=>whnf);refine .go ?_;(conv=>whnf);refine BI Cb ?_;exact AA wk h
  rintro next4 i2 x5 _ K3 hii2 hxi2 hwi2 h hK6;(conv=>whnf);refine .go ?_;(conv=>whnf);refine BD (CQ hii2) ?_;(conv=>whnf);refine .go ?_;refine⟨BF (f:=JAA.toD) hii2,JAA.toD x5,hxi2,rfl,?_⟩;obtain⟨v7,g8,h⟩:=AB h;refine⟨_,_,some [],LZ g8,?_⟩;(conv=>whnf);refine .go ?_;refine sJ h ?_ ?_<;>intro h
  ·cases h;exact⟨rfl,rfl⟩
  refine⟨_,hwi2,?_⟩;exact hK6 _ _ wk h
 rintro _ h;cases h;exact⟨rfl,rfl⟩
theorem CE {a0:List JAA}{r:Bool}(h:Am a0=some r):yC wl 114 [AV.d (D.l 3 JAA.toD a0),AV.fn 115 []] [] (.d (D.b r)) []:=by
 refine oK Tryz.f114 ⟨rfl,?_⟩;unfold Am at h;obtain⟨v1,g2,h⟩:=AB h;refine⟨_,_,some [],CO g2,?_⟩;cases h;exact⟨rfl,rfl⟩
theorem Ib {a0:List JAA}{r:JAC×Int}(h:EG a0=some r):yC wl 61 [AV.d (D.l 3 JAA.toD a0)] [] (.tup [.d (JAC.toD r.1),.d (D.i r.2)]) []:=by
 refine okx 166 Tryz.f61 (by kernel_rfl) (by kernel_rfl) ⟨rfl,?_⟩;unfold EG at h;obtain⟨v1,g2,h⟩:=AB h;refine⟨_,_,some [],Lh g2,?_⟩;obtain⟨v3,g4,h⟩:=AB h;refine⟨_,_,some [],CE g4,?_⟩;(conv=>whnf);refine .go ?_;refine sJ h ?_ ?_<;>intro h
 ·cases h;exact⟨rfl,rfl⟩
 revert h;refine AG (fun (v5,v6,v7,v8,v9,v10,v11,v12,v13,v14,v15)=>⟨y4 v1::X::yr 2 0::dd 12 (AV.tup [AV.agg [yi v5,yO 64 JAD.toD v13,yb v6,yu v7,yu v8,yi v9,yi v10,yi v11,yO 65 JAB.toD v14,yO 67 JAF.toD v15,AV.d (D.nil 3)],yb v12]::dd 52 ([])),N::N::yB JAC.zv::nn 61 (yR 132 2 JAD.toD v13::yR 137 2 JAB.toD v14::N::yR 141 3 JAF.toD v15::nn 166 ([]))⟩) ?_ ?_
 ·intro k16 h;(conv=>whnf);refine inl Tryz.f117 68 (by kernel_rfl) (by kernel_rfl) ⟨rfl,?_⟩;revert h;refine AG (fun _=>⟨y4 v1::X::yr 70 0::dd 6 (AV.d (D.agg [D.i (-1),D.nil 2,D.b false,D.u64 (0:UInt64),D.u64 (0:UInt64),D.i (-1),D.i (-1),D.i (-1),D.nil 2,D.nil 3,D.nil 3])::dd 29 ([])),N::N::yB JAC.zv::nn 67 (yB JAC.zv::nn 163 ([]))⟩) ?_ ?_
  ·intro k17 h;(conv=>whnf);refine inl Tryz.f60 107 (by kernel_rfl) (by kernel_rfl) ⟨rfl,?_⟩;exact AA wk h
  rintro _ h;refine⟨v1.length,X10 _,?_⟩;revert h;refine AG (fun (v18,v19,v20,v21,v22,v23,v24,v25,v26,v27)=>⟨X::X::yr 70 0::X::yr 72 0::dd 34 ([]),N::N::yB JAC.zv::nn 67 (yB JAC.zv::N::yB [yi v18,yO 106 JAD.toD v25,yb v19,yu v20,yu v21,yi v22,yi v23,yi v24,yO 105 JAB.toD v26,yO 104 JAF.toD v27,AV.d (D.nil 3)]::nn 31 (yR 141 3 JAF.toD v27::yR 137 2 JAB.toD v26::yR 132 2 JAD.toD v25::nn 127 ([])))⟩) ?_ ?_
  ·intro k28 h;revert h;refine Ac 10 3 JAA.toD rfl (fun i29 (v30,v31,v32,v33,v34,v35,v36,v37,v38,v39)=>⟨X::X::yr 70 0::X::yr 72 0::dd 5 (y4 v1::yi (v1.length:Int)::yi (i29:Int)::dd 26 ([])),N::N::yB JAC.zv::nn 67 (yB JAC.zv::N::yB [yi v30,yO 106 JAD.toD v37,yb v31,yu v32,yu v33,yi v34,yi v35,yi v36,yO 105 JAB.toD v38,yO 104 JAF.toD v39,AV.d (D.nil 3)]::nn 31 (yR 141 3 JAF.toD v39::yR 137 2 JAB.toD v38::yR 132 2 JAD.toD v37::nn 127 ([])))⟩) ?_ ?_ ?_
   ·exact wk
   ·rintro⟨v30,v31,v32,v33,v34,v35,v36,v37,v38,v39⟩ K40 h;(conv=>whnf);refine .go ?_;(conv=>whnf);refine BI Cb ?_;exact AA wk h
   rintro next41 i29 x42 ⟨v30,v31,v32,v33,v34,v35,v36,v37,v38,v39⟩ K40 hii29 hxi29 hwi29 h hK43;delta Ek at h;(conv=>whnf);refine .go ?_;(conv=>whnf);refine BD (CQ hii29) ?_;revert h;refine AG (fun (v44,v45,v46,v47,v48,v49,v50,v51,v52,v53)=>⟨X::X::yr 70 0::X::yr 72 0::dd 5 (y4 v1::yi (v1.length:Int)::yi (i29:Int)::dd 26 ([])),N::N::yB JAC.zv::nn 67 (yB JAC.zv::N::yB [yi v44,yO 106 JAD.toD v51,yb v45,yu v46,yu v47,yi v48,yi v49,yi v50,yO 105 JAB.toD v52,yO 104 JAF.toD v53,AV.d (D.nil 3)]::nn 31 (yR 141 3 JAF.toD v53::yR 137 2 JAB.toD v52::yR 132 2 JAD.toD v51::nn 127 ([])))⟩) ?_ ?_
   ·intro k54 h;refine⟨BF (f:=JAA.toD) hii29,JAA.toD x42,hxi29,rfl,?_⟩;(conv=>whnf);by_cases g55:(x42.Type_==1)=true
    ·replace h:=PG g55 h;refine⟨_,(HO g55),_,rfl,_,rfl,?_⟩;revert h;refine AG (fun (v56,v57)=>⟨X::X::yr 70 0::X::yr 72 0::dd 5 (y4 v1::yi (v1.length:Int)::yi (i29:Int)::dd 22 (yb v56::X::X::X::[])),N::N::yB JAC.zv::nn 67 (yB JAC.zv::N::yB [yi v57,yO 106 JAD.toD v37,yb v31,yu v32,yu v33,yi v34,yi v35,yi v36,yO 105 JAB.toD v38,yO 104 JAF.toD v39,AV.d (D.nil 3)]::nn 31 (yR 141 3 JAF.toD v39::yR 137 2 JAB.toD v38::yR 132 2 JAD.toD v37::nn 127 ([])))⟩) ?_ ?_
     ·intro k58 h;obtain⟨v59,g60,h⟩:=AB h;refine⟨_,_,some [],Bf g60,?_⟩;refine sJ h (fun h=>AA wk h) fun h=>?_;revert h;refine AG (fun (v61,v62)=>⟨X::X::yr 70 0::X::yr 72 0::dd 5 (y4 v1::yi (v1.length:Int)::yi (i29:Int)::dd 11 (yb true::X::X::X::yb false::X::X::X::yb v61::dd 6 ([]))),N::N::yB JAC.zv::nn 67 (yB JAC.zv::N::yB [yi v62,yO 106 JAD.toD v37,yb v31,yu v32,yu v33,yi v34,yi v35,yi v36,yO 105 JAB.toD v38,yO 104 JAF.toD v39,AV.d (D.nil 3)]::nn 31 (yR 141 3 JAF.toD v39::yR 137 2 JAB.toD v38::yR 132 2 JAD.toD v37::nn 127 ([])))⟩) ?_ ?_
      ·intro k63 h;(conv=>whnf);refine inl Tryz.f208 107 (by kernel_rfl) (by kernel_rfl) ⟨rfl,?_⟩;obtain⟨v64,g65,h⟩:=AB h;refine⟨_,_,some [],CZ g65,?_⟩;revert h;refine AG (fun v66=>⟨dd 4 (yb v66::dd 15 ([])),N::N::yB JAC.zv::nn 67 (yB JAC.zv::N::yB [yi v64,yO 106 JAD.toD v37,yb v31,yu v32,yu v33,yi v34,yi v35,yi v36,yO 105 JAB.toD v38,yO 104 JAF.toD v39,AV.d (D.nil 3)]::N::yB (JAA.av x42)::nn 29 (yR 141 3 JAF.toD v39::yR 137 2 JAB.toD v38::yR 132 2 JAD.toD v37::nn 127 ([])))⟩) ?_ ?_
       ·intro k67 h;refine⟨x42.Data.length,X10 _,?_⟩;exact sJ h (fun h=>AA wk h) fun h=>AA wk h
       rintro v66 h;exact AA wk h
      rintro⟨v61,v62⟩ h;exact AA wk h
     rintro⟨v56,v57⟩ h;(conv=>whnf);refine .go ?_;exact sJ h (fun h=>AA wk h) fun h=>AA wk h
    replace h:=PY g55 h;by_cases g68:(x42.Type_==2)=true
    ·replace h:=PG g68 h;refine⟨_,(Ap g55 (HO g68)),_,rfl,_,rfl,?_⟩;revert h;refine AG (fun (v69,v70)=>⟨X::X::yr 70 0::X::yr 72 0::dd 5 (y4 v1::yi (v1.length:Int)::yi (i29:Int)::dd 22 (yb v69::X::X::X::[])),N::N::yB JAC.zv::nn 67 (yB JAC.zv::N::yB [yi v30,yO 106 JAD.toD v70,yb v31,yu v32,yu v33,yi v34,yi v35,yi v36,yO 105 JAB.toD v38,yO 104 JAF.toD v39,AV.d (D.nil 3)]::nn 31 (yR 141 3 JAF.toD v39::yR 137 2 JAB.toD v38::yR 132 2 JAD.toD v70::nn 127 ([])))⟩) ?_ ?_
     ·intro k71 h;obtain⟨v72,g73,h⟩:=AB h;refine⟨_,_,some [],Bf g73,?_⟩;refine sJ h (fun h=>AA wk h) fun h=>?_;revert h;refine AG (fun (v74,v75)=>⟨X::X::yr 70 0::X::yr 72 0::dd 5 (y4 v1::yi (v1.length:Int)::yi (i29:Int)::dd 11 (yb true::X::X::X::yb false::X::X::X::yb v74::dd 6 ([]))),N::N::yB JAC.zv::nn 67 (yB JAC.zv::N::yB [yi v30,yO 106 JAD.toD v75,yb v31,yu v32,yu v33,yi v34,yi v35,yi v36,yO 105 JAB.toD v38,yO 104 JAF.toD v39,AV.d (D.nil 3)]::nn 31 (yR 141 3 JAF.toD v39::yR 137 2 JAB.toD v38::yR 132 2 JAD.toD v75::nn 127 ([])))⟩) ?_ ?_
      ·intro k76 h;(conv=>whnf);refine inl Tryz.f209 107 (by kernel_rfl) (by kernel_rfl) ⟨rfl,?_⟩;revert h;refine AG (fun v77=>⟨yr 72 0::dd 126 ([]),N::N::yB JAC.zv::nn 67 (yB JAC.zv::N::yB [yi v30,yO 106 JAD.toD v77,yb v31,yu v32,yu v33,yi v34,yi v35,yi v36,yO 105 JAB.toD v38,yO 104 JAF.toD v39,AV.d (D.nil 3)]::N::yB (JAA.av x42)::nn 29 (yR 141 3 JAF.toD v39::yR 137 2 JAB.toD v38::yR 132 2 JAD.toD v77::nn 127 ([])))⟩) ?_ ?_
       ·intro k78 h;obtain⟨_,g79,h⟩:=AB h;have g79l:(List.map JAD.toD v37).length=0:=(by rw[Em g79];rfl);revert h;refine Aw (fun (v80,v81,v82,v83)=>⟨yr 72 0::y3 v80::dd 125 ([]),N::N::yB JAC.zv::nn 67 (yB JAC.zv::N::yB [yi v30,yO 106 JAD.toD v81,yb v31,yu v32,yu v33,yi v34,yi v35,yi v36,yO 105 JAB.toD v38,yO 104 JAF.toD v39,AV.d (D.nil 3)]::N::yB (JAA.av x42)::nn 29 (yR 141 3 JAF.toD v39::yR 137 2 JAB.toD v38::some (OB.row 132 2 (List.map JAD.toD v81) (.lk v82 1 232 (List.map D.i v83).length))::nn 125 (some (OB.row 3 1 (List.map D.i v83) .yes)::N::[])))⟩) ?_ ?_
        ·exact wk
        rintro next84 ⟨v80,v81,v82,v83⟩ K85 h hK86;refine⟨v80.length,X10 _,?_⟩;(conv=>whnf);refine .go ?_;refine sJ h (fun h=>?_) fun h=>AA wk h;(conv=>whnf);refine .go ?_;revert h;refine AG (fun v87=>⟨yr 72 0::y3 v80::dd 40 (yb v87::dd 84 ([])),N::N::yB JAC.zv::nn 67 (yB JAC.zv::N::yB [yi v30,yO 106 JAD.toD v81,yb v31,yu v32,yu v33,yi v34,yi v35,yi v36,yO 105 JAB.toD v38,yO 104 JAF.toD v39,AV.d (D.nil 3)]::N::yB (JAA.av x42)::nn 29 (yR 141 3 JAF.toD v39::yR 137 2 JAB.toD v38::some (OB.row 132 2 (List.map JAD.toD v81) (.lk v82 1 232 (List.map D.i v83).length))::nn 125 (some (OB.row 3 1 (List.map D.i v83) .yes)::N::[])))⟩) ?_ ?_
        ·intro k88 h;refine⟨v80.length,X10 _,?_⟩;refine sJ h (fun h=>AA wk h) fun h=>?_;obtain⟨v89,g90,h⟩:=AB h;refine⟨Ah (f:=D.u8) g90,D.u8 v89,Aj (f:=D.u8) g90,rfl,?_⟩;refine sJ h ?_ ?_<;>intro h
         ·obtain⟨v91,g92,h⟩:=AB h;refine⟨Ah (f:=D.u8) g92,D.u8 v91,Aj (f:=D.u8) g92,rfl,?_⟩;refine sJ h (fun h=>AA wk h) fun h=>?_;refine⟨v80.length,X10 _,?_⟩;obtain⟨v93,g94,h⟩:=AB h;refine⟨Ah (f:=D.u8) g94,D.u8 v93,Aj (f:=D.u8) g94,rfl,?_⟩;refine⟨_,FO v93,?_⟩;refine⟨_,rfl,?_⟩;refine⟨_,rfl,?_⟩;refine sJ h (fun h=>AA wk h) fun h=>?_;obtain⟨v95,g96,h⟩:=AB h;refine⟨Ah (f:=D.u8) g96,D.u8 v95,Aj (f:=D.u8) g96,rfl,?_⟩;exact AA wk h
         refine⟨v80.length,X10 _,?_⟩;obtain⟨v97,g98,h⟩:=AB h;refine⟨Ah (f:=D.u8) g98,D.u8 v97,Aj (f:=D.u8) g98,rfl,?_⟩;refine⟨_,FO v97,?_⟩;refine⟨_,rfl,?_⟩;refine⟨_,rfl,?_⟩;refine sJ h (fun h=>AA wk h) fun h=>?_;obtain⟨v99,g100,h⟩:=AB h;refine⟨Ah (f:=D.u8) g100,D.u8 v99,Aj (f:=D.u8) g100,rfl,?_⟩;exact AA wk h
        rintro v87 h;(conv=>whnf);refine .go ?_;refine sJ h ?_ ?_<;>intro h
        ·exact AA (.swap 232 103 rfl rfl rfl wk) h
        obtain⟨v101,g102,h⟩:=AB h;refine⟨Ah (f:=D.u8) g102,D.u8 v101,Aj (f:=D.u8) g102,rfl,?_⟩;refine⟨_,FO v101,?_⟩;refine⟨_,rfl,?_⟩;refine⟨_,rfl,?_⟩;(conv=>whnf);refine .inl (dO ?_);obtain⟨v103,g104,h⟩:=AB h;refine⟨Ah (f:=D.u8) g104,D.u8 v103,Aj (f:=D.u8) g104,rfl,?_⟩;obtain⟨v105,g106,h⟩:=AB h;refine⟨Fe (f:=D.u8) g106,_,EL (f:=D.u8) g106,?_⟩;obtain⟨v107,g108,h⟩:=AB h;refine⟨_,_,E9 g108,.inr rfl,?_⟩;(conv=>whnf);refine cO ?_;obtain⟨v109,g110,h⟩:=AB h;refine⟨Gj (f:=D.u8) g110,_,Gf (f:=D.u8) g110,?_⟩;revert h;refine AG (fun v111=>⟨yr 72 0::y3 v109::dd 4 (yr 113 0::dd 120 ([])),N::N::yB JAC.zv::nn 67 (yB JAC.zv::N::yB [yi v30,yO 106 JAD.toD v81,yb v31,yu v32,yu v33,yi v34,yi v35,yi v36,yO 105 JAB.toD v38,yO 104 JAF.toD v39,AV.d (D.nil 3)]::N::yB (JAA.av x42)::nn 29 (yR 141 3 JAF.toD v39::yR 137 2 JAB.toD v38::some (OB.row 132 2 (List.map JAD.toD v81) (.lk v82 1 232 (List.map D.i v83).length))::nn 6 (yB [yb ((v103.toNat:Int)==1),yO 175 D.i v111]::nn 61 (yR 3 1 D.i v111::nn 56 (some (OB.row 3 1 (List.map D.i v83) .yes)::N::[])))))⟩) ?_ ?_
        ·intro k112 h;refine sJ h ?_ ?_<;>intro h
         ·obtain⟨v113,g114,h⟩:=AB h;have g114l:=ZS g114;refine⟨_,_,some [],VS g114,?_⟩;obtain⟨v115,g116,h⟩:=AB h;have g117:(List.map D.i v113).length=(List.map D.i v107).length:=(by first | rfl | (simp only[X10,X21];omega)|(simp only[cpy,X10,X21,X11,X18,X17,X20];omega)|(simp only[X10] at *;omega));refine⟨_,_,some [175],(g117 ▸ IN g116),?_⟩;exact AA wk h
         exact AA (.swap 163 175 rfl rfl rfl wk) h
        rintro v111 h;refine⟨v81.length,by first | exact X10 _ | rfl | (simp only[X10];omega),?_⟩;refine⟨_,rfl,?_⟩;revert h;refine AG (fun v118=>⟨yr 72 0::y3 v109::dd 4 (yr 113 0::yi (AN ((v81.length:Int)-1))::dd 85 (yb v118::dd 33 ([]))),N::N::yB JAC.zv::nn 67 (yB JAC.zv::N::yB [yi v30,yO 106 JAD.toD v81,yb v31,yu v32,yu v33,yi v34,yi v35,yi v36,yO 105 JAB.toD v38,yO 104 JAF.toD v39,AV.d (D.nil 3)]::N::yB (JAA.av x42)::nn 29 (yR 141 3 JAF.toD v39::yR 137 2 JAB.toD v38::some (OB.row 132 2 (List.map JAD.toD v81) (.lk v82 1 232 (List.map D.i v83).length))::nn 6 (yB [yb ((v103.toNat:Int)==1),yO 175 D.i v111]::nn 61 (yR 3 1 D.i v111::nn 56 (some (OB.row 3 1 (List.map D.i v83) .yes)::N::[])))))⟩) ?_ ?_
        ·intro k119 h;refine sJ h (fun h=>?_) fun h=>AA wk h;refine sJ h (fun h=>?_) fun h=>AA wk h;obtain⟨v120,g121,h⟩:=AB h;refine⟨rfl,Ah (f:=JAD.toD) g121,?_⟩;refine⟨rfl,?_⟩;(conv=>whnf);refine .inl ?_;refine⟨rfl,JAD.toD v120,(Aj (f:=JAD.toD) g121),?_⟩;exact AA wk h
        rintro v118 h;revert h;refine AG (fun (v122,v123,v124)=>⟨yr 72 0::y3 v109::dd 125 ([]),N::N::yB JAC.zv::nn 67 (yB JAC.zv::N::yB [yi v30,yO 106 JAD.toD v122,yb v31,yu v32,yu v33,yi v34,yi v35,yi v36,yO 105 JAB.toD v38,yO 104 JAF.toD v39,AV.d (D.nil 3)]::N::yB (JAA.av x42)::nn 29 (yR 141 3 JAF.toD v39::yR 137 2 JAB.toD v38::some (OB.row 132 2 (List.map JAD.toD v122) (.lk v123 1 232 (List.map D.i v124).length))::nn 125 (some (OB.row 3 1 (List.map D.i v124) .yes)::N::[])))⟩) ?_ ?_
        ·intro k125 h;refine sJ h ?_ ?_<;>intro h
         ·(conv=>whnf);refine .inl (dO ?_);obtain⟨v126,g127,h⟩:=AB h;refine⟨rfl,Ah (f:=JAD.toD) g127,?_⟩;refine⟨rfl,?_⟩;obtain⟨_,g128,h⟩:=AB h;refine .inr ⟨rfl,Em g128,rfl,(bf (f:=JAD.toD) g127),by decide,rfl,?_⟩;refine⟨rfl,?_⟩;obtain⟨v129,g130,h⟩:=AB h;refine⟨rfl,Ab (f:=D.i) (g:=D.i) g130,_,Ag (f:=D.i) g130,?_⟩;obtain⟨v131,g132,h⟩:=AB h;refine⟨rfl,Ah (f:=JAD.toD) g132,?_⟩;refine⟨rfl,?_⟩;obtain⟨v133,g134,h⟩:=AB h;have g134l:=I6 g134;refine⟨rfl,?_⟩;refine⟨rfl,rfl,JAD.toD v131,(Aj (f:=JAD.toD) g132),?_⟩;refine⟨_,O2 (f:=JAD.toD) g134,?_⟩;(conv=>whnf);refine cO ?_;exact AA wk h
         (conv=>whnf);refine .inl (dO ?_);(conv=>whnf);refine .inr (.inr ?_);refine⟨1,175,_,rfl,?_⟩;refine⟨rfl,?_⟩;refine⟨rfl,?_⟩;obtain⟨v135,g136,h⟩:=AB h;refine⟨rfl,Ab (f:=JAD.toD) (g:=JAD.toD) g136,_,Ag (f:=JAD.toD) g136,?_⟩;refine⟨rfl,?_⟩;(conv=>whnf);refine cO ?_;exact AA (.swap 175 232 rfl rfl rfl wk) h
        rintro⟨v122,v123,v124⟩ h;exact hK86 _ _ wk h
       rintro v77 h;refine⟨rfl,?_⟩;obtain⟨v137,g138,h⟩:=AB h;refine⟨_,_,none,Jx g138,?_⟩;exact AA wk h
      rintro⟨v74,v75⟩ h;exact AA wk h
     rintro⟨v69,v70⟩ h;(conv=>whnf);refine .go ?_;exact sJ h (fun h=>AA wk h) fun h=>AA wk h
    replace h:=PY g68 h;by_cases g139:(x42.Type_==3)=true
    ·replace h:=PG g139 h;refine⟨_,(Ap g55 (Ap g68 (HO g139))),_,rfl,_,rfl,?_⟩;revert h;refine AG (fun (v140,v141,v142,v143)=>⟨X::X::yr 70 0::X::yr 72 0::dd 5 (y4 v1::yi (v1.length:Int)::yi (i29:Int)::dd 22 (yb v140::X::X::X::[])),N::N::yB JAC.zv::nn 67 (yB JAC.zv::N::yB [yi v30,yO 106 JAD.toD v37,yb v141,yu v142,yu v143,yi v34,yi v35,yi v36,yO 105 JAB.toD v38,yO 104 JAF.toD v39,AV.d (D.nil 3)]::nn 31 (yR 141 3 JAF.toD v39::yR 137 2 JAB.toD v38::yR 132 2 JAD.toD v37::nn 127 ([])))⟩) ?_ ?_
     ·intro k144 h;obtain⟨v145,g146,h⟩:=AB h;refine⟨_,_,some [],Bf g146,?_⟩;refine sJ h (fun h=>AA wk h) fun h=>?_;revert h;refine AG (fun (v147,v148,v149)=>⟨X::X::yr 70 0::X::yr 72 0::dd 5 (y4 v1::yi (v1.length:Int)::yi (i29:Int)::dd 11 (yb true::X::X::X::yb false::X::X::X::yb ((x42.Data.length:Int)==4)::dd 6 ([]))),N::N::yB JAC.zv::nn 67 (yB JAC.zv::N::yB [yi v30,yO 106 JAD.toD v37,yb v147,yu v148,yu v149,yi v34,yi v35,yi v36,yO 105 JAB.toD v38,yO 104 JAF.toD v39,AV.d (D.nil 3)]::nn 31 (yR 141 3 JAF.toD v39::yR 137 2 JAB.toD v38::yR 132 2 JAD.toD v37::nn 127 ([])))⟩) ?_ ?_
      ·intro k150 h;(conv=>whnf);refine inl Tryz.f210 107 (by kernel_rfl) (by kernel_rfl) ⟨rfl,?_⟩;obtain⟨⟨v151,v152⟩,g153,h⟩:=AB h;refine⟨_,_,some [],Ge g153,?_⟩;refine⟨x42.Data.length,X10 _,?_⟩;exact AA wk h
      rintro⟨v147,v148,v149⟩ h;exact AA wk h
     rintro⟨v140,v141,v142,v143⟩ h;(conv=>whnf);refine .go ?_;exact sJ h (fun h=>AA wk h) fun h=>AA wk h
    replace h:=PY g139 h;by_cases g154:(x42.Type_==4)=true
    ·replace h:=PG g154 h;refine⟨_,(Ap g55 (Ap g68 (Ap g139 (HO g154)))),_,rfl,_,rfl,?_⟩;revert h;refine AG (fun (v155,v156)=>⟨X::X::yr 70 0::X::yr 72 0::dd 5 (y4 v1::yi (v1.length:Int)::yi (i29:Int)::dd 22 (yb v155::X::X::X::[])),N::N::yB JAC.zv::nn 67 (yB JAC.zv::N::yB [yi v30,yO 106 JAD.toD v37,yb v31,yu v32,yu v33,yi v156,yi v35,yi v36,yO 105 JAB.toD v38,yO 104 JAF.toD v39,AV.d (D.nil 3)]::nn 31 (yR 141 3 JAF.toD v39::yR 137 2 JAB.toD v38::yR 132 2 JAD.toD v37::nn 127 ([])))⟩) ?_ ?_
     ·intro k157 h;obtain⟨v158,g159,h⟩:=AB h;refine⟨_,_,some [],Bf g159,?_⟩;refine sJ h (fun h=>AA wk h) fun h=>?_;revert h;refine AG (fun v160=>⟨X::X::yr 70 0::X::yr 72 0::dd 5 (y4 v1::yi (v1.length:Int)::yi (i29:Int)::dd 11 (yb true::X::X::X::yb false::X::X::X::yb ((x42.Data.length:Int)==4)::dd 6 ([]))),N::N::yB JAC.zv::nn 67 (yB JAC.zv::N::yB [yi v30,yO 106 JAD.toD v37,yb v31,yu v32,yu v33,yi v160,yi v35,yi v36,yO 105 JAB.toD v38,yO 104 JAF.toD v39,AV.d (D.nil 3)]::nn 31 (yR 141 3 JAF.toD v39::yR 137 2 JAB.toD v38::yR 132 2 JAD.toD v37::nn 127 ([])))⟩) ?_ ?_
      ·intro k161 h;(conv=>whnf);refine inl Tryz.f211 107 (by kernel_rfl) (by kernel_rfl) ⟨rfl,?_⟩;revert h;refine AG (fun v162=>⟨dd 4 (yb false::dd 4 (yb ((x42.Data.length:Int)==4)::[])),N::N::yB JAC.zv::nn 67 (yB JAC.zv::N::yB [yi v30,yO 106 JAD.toD v37,yb v31,yu v32,yu v33,yi v162,yi v35,yi v36,yO 105 JAB.toD v38,yO 104 JAF.toD v39,AV.d (D.nil 3)]::N::yB (JAA.av x42)::nn 29 (yR 141 3 JAF.toD v39::yR 137 2 JAB.toD v38::yR 132 2 JAD.toD v37::nn 127 ([])))⟩) ?_ ?_
       ·intro k163 h;(conv=>whnf);refine inl Tryz.f212 117 (by kernel_rfl) (by kernel_rfl) ⟨rfl,?_⟩;obtain⟨v164,g165,h⟩:=AB h;refine⟨_,_,some [],CZ g165,?_⟩;refine⟨x42.Data.length,X10 _,?_⟩;exact AA wk h
       rintro v162 h;exact AA wk h
      rintro v160 h;exact AA wk h
     rintro⟨v155,v156⟩ h;(conv=>whnf);refine .go ?_;exact sJ h (fun h=>AA wk h) fun h=>AA wk h
    replace h:=PY g154 h;by_cases g166:(x42.Type_==5)=true
    ·replace h:=PG g166 h;refine⟨_,(Ap g55 (Ap g68 (Ap g139 (Ap g154 (HO g166))))),_,rfl,_,rfl,?_⟩;revert h;refine AG (fun (v167,v168)=>⟨X::X::yr 70 0::X::yr 72 0::dd 5 (y4 v1::yi (v1.length:Int)::yi (i29:Int)::dd 22 (yb v167::X::X::X::[])),N::N::yB JAC.zv::nn 67 (yB JAC.zv::N::yB [yi v30,yO 106 JAD.toD v37,yb v31,yu v32,yu v33,yi v34,yi v168,yi v36,yO 105 JAB.toD v38,yO 104 JAF.toD v39,AV.d (D.nil 3)]::nn 31 (yR 141 3 JAF.toD v39::yR 137 2 JAB.toD v38::yR 132 2 JAD.toD v37::nn 127 ([])))⟩) ?_ ?_
     ·intro k169 h;obtain⟨v170,g171,h⟩:=AB h;refine⟨_,_,some [],Bf g171,?_⟩;refine sJ h (fun h=>AA wk h) fun h=>?_;revert h;refine AG (fun v172=>⟨X::X::yr 70 0::X::yr 72 0::dd 5 (y4 v1::yi (v1.length:Int)::yi (i29:Int)::dd 11 (yb true::X::X::X::yb false::X::X::X::yb ((x42.Data.length:Int)==4)::dd 6 ([]))),N::N::yB JAC.zv::nn 67 (yB JAC.zv::N::yB [yi v30,yO 106 JAD.toD v37,yb v31,yu v32,yu v33,yi v34,yi v172,yi v36,yO 105 JAB.toD v38,yO 104 JAF.toD v39,AV.d (D.nil 3)]::nn 31 (yR 141 3 JAF.toD v39::yR 137 2 JAB.toD v38::yR 132 2 JAD.toD v37::nn 127 ([])))⟩) ?_ ?_
      ·intro k173 h;(conv=>whnf);refine inl Tryz.f213 107 (by kernel_rfl) (by kernel_rfl) ⟨rfl,?_⟩;revert h;refine AG (fun v174=>⟨dd 4 (yb false::dd 4 (yb ((x42.Data.length:Int)==4)::[])),N::N::yB JAC.zv::nn 67 (yB JAC.zv::N::yB [yi v30,yO 106 JAD.toD v37,yb v31,yu v32,yu v33,yi v34,yi v174,yi v36,yO 105 JAB.toD v38,yO 104 JAF.toD v39,AV.d (D.nil 3)]::N::yB (JAA.av x42)::nn 29 (yR 141 3 JAF.toD v39::yR 137 2 JAB.toD v38::yR 132 2 JAD.toD v37::nn 127 ([])))⟩) ?_ ?_
       ·intro k175 h;(conv=>whnf);refine inl Tryz.f212 117 (by kernel_rfl) (by kernel_rfl) ⟨rfl,?_⟩;obtain⟨v176,g177,h⟩:=AB h;refine⟨_,_,some [],CZ g177,?_⟩;refine⟨x42.Data.length,X10 _,?_⟩;exact AA wk h
       rintro v174 h;exact AA wk h
      rintro v172 h;exact AA wk h
     rintro⟨v167,v168⟩ h;(conv=>whnf);refine .go ?_;exact sJ h (fun h=>AA wk h) fun h=>AA wk h
    replace h:=PY g166 h;by_cases g178:(x42.Type_==8)=true
    ·replace h:=PG g178 h;refine⟨_,(Ap g55 (Ap g68 (Ap g139 (Ap g154 (Ap g166 (HO g178)))))),_,rfl,_,rfl,?_⟩;revert h;refine AG (fun (v179,v180)=>⟨X::X::yr 70 0::X::yr 72 0::dd 5 (y4 v1::yi (v1.length:Int)::yi (i29:Int)::dd 22 (yb v179::X::X::X::[])),N::N::yB JAC.zv::nn 67 (yB JAC.zv::N::yB [yi v30,yO 106 JAD.toD v37,yb v31,yu v32,yu v33,yi v34,yi v35,yi v36,yO 105 JAB.toD v180,yO 104 JAF.toD v39,AV.d (D.nil 3)]::nn 31 (yR 141 3 JAF.toD v39::yR 137 2 JAB.toD v180::yR 132 2 JAD.toD v37::nn 127 ([])))⟩) ?_ ?_
     ·intro k181 h;obtain⟨v182,g183,h⟩:=AB h;refine⟨_,_,some [],Bf g183,?_⟩;refine sJ h (fun h=>AA wk h) fun h=>?_;revert h;refine AG (fun (v184,v185)=>⟨X::X::yr 70 0::X::yr 72 0::dd 5 (y4 v1::yi (v1.length:Int)::yi (i29:Int)::dd 11 (yb true::X::X::X::yb false::X::X::X::yb v184::dd 6 ([]))),N::N::yB JAC.zv::nn 67 (yB JAC.zv::N::yB [yi v30,yO 106 JAD.toD v37,yb v31,yu v32,yu v33,yi v34,yi v35,yi v36,yO 105 JAB.toD v185,yO 104 JAF.toD v39,AV.d (D.nil 3)]::nn 31 (yR 141 3 JAF.toD v39::yR 137 2 JAB.toD v185::yR 132 2 JAD.toD v37::nn 127 ([])))⟩) ?_ ?_
      ·intro k186 h;(conv=>whnf);refine inl Tryz.f214 107 (by kernel_rfl) (by kernel_rfl) ⟨rfl,?_⟩;obtain⟨v187,g188,h⟩:=AB h;refine⟨_,_,some [117],E9 g188,?_⟩;refine⟨v187.length,by first | exact X10 _ | rfl | (simp only[X10];omega),?_⟩;revert h;refine AG (fun v189=>⟨yr 72 0::AV.d (D.l 1 D.u8 x42.Data)::X::X::X::yO 112 JAB.toD v189::dd 41 ([]),N::N::yB JAC.zv::nn 67 (yB JAC.zv::N::yB [yi v30,yO 106 JAD.toD v37,yb v31,yu v32,yu v33,yi v34,yi v35,yi v36,yO 105 JAB.toD v38,yO 104 JAF.toD v39,AV.d (D.nil 3)]::N::yB (JAA.av x42)::nn 29 (yR 141 3 JAF.toD v39::yR 137 2 JAB.toD v38::yR 132 2 JAD.toD v37::nn 5 (yR 137 2 JAB.toD v189::nn 121 ([]))))⟩) ?_ ?_
       ·intro k190 h;revert h;refine Nr 117 3 1 .no D.i rfl (fun i191 v192=>⟨yr 72 0::AV.d (D.l 1 D.u8 x42.Data)::X::X::X::yO 112 JAB.toD v192::dd 4 (yO 117 D.i v187::yi (v187.length:Int)::yi (i191:Int)::dd 34 ([])),N::N::yB JAC.zv::nn 67 (yB JAC.zv::N::yB [yi v30,yO 106 JAD.toD v37,yb v31,yu v32,yu v33,yi v34,yi v35,yi v36,yO 105 JAB.toD v38,yO 104 JAF.toD v39,AV.d (D.nil 3)]::N::yB (JAA.av x42)::nn 29 (yR 141 3 JAF.toD v39::yR 137 2 JAB.toD v38::yR 132 2 JAD.toD v37::nn 5 (yR 137 2 JAB.toD v192::nn 4 (yR 3 1 D.i v187::nn 116 ([])))))⟩) ?_ ?_ ?_
        ·exact wk
        ·rintro v192 K193 h;(conv=>whnf);refine .go ?_;(conv=>whnf);refine BI Cb ?_;exact AA wk h
        rintro next194 i191 x195 v192 K193 hii191 hxi191 hwi191 h hK196;(conv=>whnf);refine .go ?_;(conv=>whnf);refine BD (CQ hii191) ?_;(conv=>whnf);refine .go ?_;refine⟨rfl,BF (f:=D.i) hii191,?_⟩;refine⟨rfl,D.i x195,hxi191,?_⟩;refine⟨by decide,_,rfl,?_⟩;refine⟨_,rfl,?_⟩;refine⟨rfl,?_⟩;obtain⟨v197,g198,h⟩:=AB h;refine⟨rfl,Ab (f:=JAB.toD) (g:=JAB.toD) g198,_,Ag (f:=JAB.toD) g198,?_⟩;refine⟨_,hwi191,?_⟩;exact hK196 _ _ wk h
       rintro v189 h;revert h;refine AG (fun (v199,v200)=>⟨yr 72 0::AV.d (D.l 1 D.u8 x42.Data)::dd 6 (yb false::dd 17 (yr 72 0::X::AV.tup [yO 153 JAB.toD v200,yb v199]::dd 18 ([]))),N::N::yB JAC.zv::nn 67 (yB JAC.zv::N::yB [yi v30,yO 106 JAD.toD v37,yb v31,yu v32,yu v33,yi v34,yi v35,yi v36,yO 105 JAB.toD v38,yO 104 JAF.toD v39,AV.d (D.nil 3)]::N::yB (JAA.av x42)::nn 29 (yR 141 3 JAF.toD v39::yR 137 2 JAB.toD v38::yR 132 2 JAD.toD v37::nn 46 (yR 137 2 JAB.toD v200::nn 80 ([]))))⟩) ?_ ?_
       ·intro k201 h;(conv=>whnf);refine inl Tryz.f220 154 (by kernel_rfl) (by kernel_rfl) ⟨rfl,?_⟩;revert h;refine AG (fun v202=>⟨yO 112 JAB.toD v189::AV.fn 221 []::dd 4 (yb v202::dd 14 ([])),N::N::yB JAC.zv::nn 67 (yB JAC.zv::N::yB [yi v30,yO 106 JAD.toD v37,yb v31,yu v32,yu v33,yi v34,yi v35,yi v36,yO 105 JAB.toD v38,yO 104 JAF.toD v39,AV.d (D.nil 3)]::N::yB (JAA.av x42)::nn 29 (yR 141 3 JAF.toD v39::yR 137 2 JAB.toD v38::yR 132 2 JAD.toD v37::nn 5 (yR 137 2 JAB.toD v189::nn 121 ([]))))⟩) ?_ ?_
        ·intro k203 h;refine⟨v189.length,by first | exact X10 _ | rfl | (simp only[X10];omega),?_⟩;refine sJ h (fun h=>?_) fun h=>AA wk h;refine⟨v189.length,by first | exact X10 _ | rfl | (simp only[X10];omega),?_⟩;exact AA wk h
        rintro v202 h;obtain⟨v204,g205,h⟩:=AB h;have g205l:=G0 g205;refine⟨_,_,some [],Vf (f:=JAB.toD) (enters_of Tryz.func221 (by kernel_rfl) rfl) (fun h=>G2 h) g205,?_⟩;obtain⟨v206,g207,h⟩:=AB h;have g208:(List.map JAB.toD v204).length=(List.map JAB.toD v189).length:=(by first | rfl | (simp only[X10,X21];omega)|(simp only[cpy,X10,X21,X11,X18,X17,X20];omega)|(simp only[X10] at *;omega));refine⟨_,_,some [173],(g208 ▸ EB g207),?_⟩;exact AA (.swap 173 153 rfl rfl rfl wk) h
       rintro⟨v199,v200⟩ h;revert h;refine AG (fun v209=>⟨dd 4 (yb v209::dd 42 ([])),N::N::yB JAC.zv::nn 67 (yB JAC.zv::N::yB [yi v30,yO 106 JAD.toD v37,yb v31,yu v32,yu v33,yi v34,yi v35,yi v36,yO 153 JAB.toD v200,yO 104 JAF.toD v39,AV.d (D.nil 3)]::N::yB (JAA.av x42)::nn 29 (yR 141 3 JAF.toD v39::yR 137 2 JAB.toD v38::yR 132 2 JAD.toD v37::nn 46 (yR 137 2 JAB.toD v200::nn 80 ([]))))⟩) ?_ ?_
       ·intro k210 h;refine sJ h (fun h=>?_) fun h=>AA wk h;refine⟨x42.Data.length,X10 _,?_⟩;refine⟨by decide,_,rfl,?_⟩;refine sJ h (fun h=>?_) fun h=>AA wk h;refine⟨rfl,?_⟩;obtain⟨v211,g212,h⟩:=AB h;refine⟨_,_,none,F5 g212,?_⟩;exact AA wk h
       rintro v209 h;exact AA (.swap 153 105 rfl rfl rfl wk) h
      rintro⟨v184,v185⟩ h;exact AA wk h
     rintro⟨v179,v180⟩ h;(conv=>whnf);refine .go ?_;exact sJ h (fun h=>AA wk h) fun h=>AA wk h
    replace h:=PY g178 h;by_cases g213:(x42.Type_==32)=true
    ·replace h:=PG g213 h;refine⟨_,(Ap g55 (Ap g68 (Ap g139 (Ap g154 (Ap g166 (Ap g178 (HO g213))))))),_,rfl,_,rfl,?_⟩;revert h;refine AG (fun (v214,v215)=>⟨X::X::yr 70 0::X::yr 72 0::dd 5 (y4 v1::yi (v1.length:Int)::yi (i29:Int)::dd 22 (yb v214::X::X::X::[])),N::N::yB JAC.zv::nn 67 (yB JAC.zv::N::yB [yi v30,yO 106 JAD.toD v37,yb v31,yu v32,yu v33,yi v34,yi v35,yi v36,yO 105 JAB.toD v38,yO 104 JAF.toD v215,AV.d (D.nil 3)]::nn 31 (yR 141 3 JAF.toD v215::yR 137 2 JAB.toD v38::yR 132 2 JAD.toD v37::nn 127 ([])))⟩) ?_ ?_
     ·intro k216 h;obtain⟨v217,g218,h⟩:=AB h;refine⟨_,_,some [],Bf g218,?_⟩;refine sJ h (fun h=>AA wk h) fun h=>?_;revert h;refine AG (fun (v219,v220)=>⟨X::X::yr 70 0::X::yr 72 0::dd 5 (y4 v1::yi (v1.length:Int)::yi (i29:Int)::dd 11 (yb true::X::X::X::yb false::X::X::X::yb v219::dd 6 ([]))),N::N::yB JAC.zv::nn 67 (yB JAC.zv::N::yB [yi v30,yO 106 JAD.toD v37,yb v31,yu v32,yu v33,yi v34,yi v35,yi v36,yO 105 JAB.toD v38,yO 104 JAF.toD v220,AV.d (D.nil 3)]::nn 31 (yR 141 3 JAF.toD v220::yR 137 2 JAB.toD v38::yR 132 2 JAD.toD v37::nn 127 ([])))⟩) ?_ ?_
      ·intro k221 h;(conv=>whnf);refine inl Tryz.f215 107 (by kernel_rfl) (by kernel_rfl) ⟨rfl,?_⟩;refine⟨x42.Data.length,X10 _,?_⟩;refine⟨by decide,_,rfl,?_⟩;(conv=>whnf);refine .go ?_;refine sJ h (fun h=>AA wk h) fun h=>?_;obtain⟨v222,g223,h⟩:=AB h;refine⟨_,_,some [120],E9 g223,?_⟩;revert h;refine AG (fun v224=>⟨yr 72 0::dd 4 (yO 112 JAF.toD v224::dd 42 ([])),N::N::yB JAC.zv::nn 67 (yB JAC.zv::N::yB [yi v30,yO 106 JAD.toD v37,yb v31,yu v32,yu v33,yi v34,yi v35,yi v36,yO 105 JAB.toD v38,yO 104 JAF.toD v39,AV.d (D.nil 3)]::N::yB (JAA.av x42)::nn 29 (yR 141 3 JAF.toD v39::yR 137 2 JAB.toD v38::yR 132 2 JAD.toD v37::nn 5 (yR 141 3 JAF.toD v224::nn 121 ([]))))⟩) ?_ ?_
       ·intro k225 h;revert h;refine Aw (fun (v226,v227)=>⟨yr 72 0::dd 4 (yO 112 JAF.toD v226::yO 120 D.i v227::dd 41 ([])),N::N::yB JAC.zv::nn 67 (yB JAC.zv::N::yB [yi v30,yO 106 JAD.toD v37,yb v31,yu v32,yu v33,yi v34,yi v35,yi v36,yO 105 JAB.toD v38,yO 104 JAF.toD v39,AV.d (D.nil 3)]::N::yB (JAA.av x42)::nn 29 (yR 141 3 JAF.toD v39::yR 137 2 JAB.toD v38::yR 132 2 JAD.toD v37::nn 5 (yR 141 3 JAF.toD v226::nn 7 (yR 3 1 D.i v227::nn 113 ([])))))⟩) ?_ ?_
        ·exact wk
        rintro next228 ⟨v226,v227⟩ K229 h hK230;refine⟨v227.length,by first | exact X10 _ | rfl | (simp only[X10];omega),?_⟩;(conv=>whnf);refine .go ?_;refine sJ h (fun h=>?_) fun h=>AA wk h;(conv=>whnf);refine .go ?_;(conv=>whnf);refine .inl (dO ?_);obtain⟨v231,g232,h⟩:=AB h;refine⟨rfl,Ah (f:=D.i) g232,?_⟩;refine⟨rfl,D.i v231,(Aj (f:=D.i) g232),?_⟩;obtain⟨v233,g234,h⟩:=AB h;refine⟨rfl,Ah (f:=D.i) g234,?_⟩;refine⟨rfl,D.i v233,(Aj (f:=D.i) g234),?_⟩;obtain⟨v235,g236,h⟩:=AB h;refine⟨rfl,Ah (f:=D.i) g236,?_⟩;refine⟨rfl,D.i v235,(Aj (f:=D.i) g236),?_⟩;refine⟨rfl,?_⟩;obtain⟨v237,g238,h⟩:=AB h;refine⟨rfl,Ab (f:=JAF.toD) (g:=JAF.toD) g238,_,Ag (f:=JAF.toD) g238,?_⟩;(conv=>whnf);refine cO ?_;(conv=>whnf);refine .inr (.inr ?_);obtain⟨v239,g240,h⟩:=AB h;refine⟨cQ (f:=D.i) g240,rfl,_,Gf (f:=D.i) g240,?_⟩;exact hK230 _ _ (.swap 125 120 rfl rfl rfl wk) h
       rintro v224 h;revert h;refine AG (fun (v241,v242)=>⟨yr 72 0::dd 6 (yb false::dd 25 (yr 72 0::X::AV.tup [yO 154 JAF.toD v242,yb v241]::dd 12 ([]))),N::N::yB JAC.zv::nn 67 (yB JAC.zv::N::yB [yi v30,yO 106 JAD.toD v37,yb v31,yu v32,yu v33,yi v34,yi v35,yi v36,yO 105 JAB.toD v38,yO 104 JAF.toD v39,AV.d (D.nil 3)]::N::yB (JAA.av x42)::nn 29 (yR 141 3 JAF.toD v39::yR 137 2 JAB.toD v38::yR 132 2 JAD.toD v37::nn 47 (yR 141 3 JAF.toD v242::nn 79 ([]))))⟩) ?_ ?_
       ·intro k243 h;(conv=>whnf);refine inl Tryz.f222 155 (by kernel_rfl) (by kernel_rfl) ⟨rfl,?_⟩;revert h;refine AG (fun v244=>⟨yO 112 JAF.toD v224::AV.fn 223 []::dd 4 (yb v244::dd 14 ([])),N::N::yB JAC.zv::nn 67 (yB JAC.zv::N::yB [yi v30,yO 106 JAD.toD v37,yb v31,yu v32,yu v33,yi v34,yi v35,yi v36,yO 105 JAB.toD v38,yO 104 JAF.toD v39,AV.d (D.nil 3)]::N::yB (JAA.av x42)::nn 29 (yR 141 3 JAF.toD v39::yR 137 2 JAB.toD v38::yR 132 2 JAD.toD v37::nn 5 (yR 141 3 JAF.toD v224::nn 121 ([]))))⟩) ?_ ?_
        ·intro k245 h;refine⟨v224.length,by first | exact X10 _ | rfl | (simp only[X10];omega),?_⟩;refine sJ h (fun h=>?_) fun h=>AA wk h;refine⟨v224.length,by first | exact X10 _ | rfl | (simp only[X10];omega),?_⟩;exact AA wk h
        rintro v244 h;obtain⟨v246,g247,h⟩:=AB h;have g247l:=G0 g247;refine⟨_,_,some [],WN (f:=JAF.toD) (enters_of Tryz.func223 (by kernel_rfl) rfl) (fun h=>Ii h) g247,?_⟩;obtain⟨v248,g249,h⟩:=AB h;have g250:(List.map JAF.toD v246).length=(List.map JAF.toD v224).length:=(by first | rfl | (simp only[X10,X21];omega)|(simp only[cpy,X10,X21,X11,X18,X17,X20];omega)|(simp only[X10] at *;omega));refine⟨_,_,some [174],(g250 ▸ FR g249),?_⟩;exact AA (.swap 174 154 rfl rfl rfl wk) h
       rintro⟨v241,v242⟩ h;revert h;refine AG (fun v251=>⟨dd 4 (yb v251::dd 43 ([])),N::N::yB JAC.zv::nn 67 (yB JAC.zv::N::yB [yi v30,yO 106 JAD.toD v37,yb v31,yu v32,yu v33,yi v34,yi v35,yi v36,yO 105 JAB.toD v38,yO 154 JAF.toD v242,AV.d (D.nil 3)]::N::yB (JAA.av x42)::nn 29 (yR 141 3 JAF.toD v39::yR 137 2 JAB.toD v38::yR 132 2 JAD.toD v37::nn 47 (yR 141 3 JAF.toD v242::nn 79 ([]))))⟩) ?_ ?_
       ·intro k252 h;refine sJ h (fun h=>?_) fun h=>AA wk h;refine⟨rfl,?_⟩;obtain⟨v253,g254,h⟩:=AB h;refine⟨_,_,none,EE g254,?_⟩;exact AA wk h
       rintro v251 h;exact AA (.swap 154 104 rfl rfl rfl wk) h
      rintro⟨v219,v220⟩ h;exact AA wk h
     rintro⟨v214,v215⟩ h;(conv=>whnf);refine .go ?_;exact sJ h (fun h=>AA wk h) fun h=>AA wk h
    replace h:=PY g213 h;by_cases g255:(x42.Type_==35)=true
    ·replace h:=PG g255 h;refine⟨_,(Ap g55 (Ap g68 (Ap g139 (Ap g154 (Ap g166 (Ap g178 (Ap g213 (HO g255)))))))),_,rfl,_,rfl,?_⟩;revert h;refine AG (fun (v256,v257)=>⟨X::X::yr 70 0::X::yr 72 0::dd 5 (y4 v1::yi (v1.length:Int)::yi (i29:Int)::dd 22 (yb v256::X::X::X::[])),N::N::yB JAC.zv::nn 67 (yB JAC.zv::N::yB [yi v30,yO 106 JAD.toD v37,yb v31,yu v32,yu v33,yi v34,yi v35,yi v257,yO 105 JAB.toD v38,yO 104 JAF.toD v39,AV.d (D.nil 3)]::nn 31 (yR 141 3 JAF.toD v39::yR 137 2 JAB.toD v38::yR 132 2 JAD.toD v37::nn 127 ([])))⟩) ?_ ?_
     ·intro k258 h;obtain⟨v259,g260,h⟩:=AB h;refine⟨_,_,some [],Bf g260,?_⟩;refine sJ h (fun h=>AA wk h) fun h=>?_;revert h;refine AG (fun (v261,v262)=>⟨X::X::yr 70 0::X::yr 72 0::dd 5 (y4 v1::yi (v1.length:Int)::yi (i29:Int)::dd 11 (yb true::X::X::X::yb false::X::X::X::yb v261::dd 6 ([]))),N::N::yB JAC.zv::nn 67 (yB JAC.zv::N::yB [yi v30,yO 106 JAD.toD v37,yb v31,yu v32,yu v33,yi v34,yi v35,yi v262,yO 105 JAB.toD v38,yO 104 JAF.toD v39,AV.d (D.nil 3)]::nn 31 (yR 141 3 JAF.toD v39::yR 137 2 JAB.toD v38::yR 132 2 JAD.toD v37::nn 127 ([])))⟩) ?_ ?_
      ·intro k263 h;(conv=>whnf);refine inl Tryz.f216 107 (by kernel_rfl) (by kernel_rfl) ⟨rfl,?_⟩;revert h;refine AG (fun (v264,v265)=>⟨dd 4 (yb v264::dd 12 ([])),N::N::yB JAC.zv::nn 67 (yB JAC.zv::N::yB [yi v30,yO 106 JAD.toD v37,yb v31,yu v32,yu v33,yi v34,yi v35,yi v265,yO 105 JAB.toD v38,yO 104 JAF.toD v39,AV.d (D.nil 3)]::N::yB (JAA.av x42)::nn 29 (yR 141 3 JAF.toD v39::yR 137 2 JAB.toD v38::yR 132 2 JAD.toD v37::nn 127 ([])))⟩) ?_ ?_
       ·intro k266 h;revert h;refine AG (fun v267=>⟨yr 72 0::X::X::X::yb false::dd 4 (yb ((x42.Data.length:Int)==4)::dd 7 ([])),N::N::yB JAC.zv::nn 67 (yB JAC.zv::N::yB [yi v30,yO 106 JAD.toD v37,yb v31,yu v32,yu v33,yi v34,yi v35,yi v267,yO 105 JAB.toD v38,yO 104 JAF.toD v39,AV.d (D.nil 3)]::N::yB (JAA.av x42)::nn 29 (yR 141 3 JAF.toD v39::yR 137 2 JAB.toD v38::yR 132 2 JAD.toD v37::nn 127 ([])))⟩) ?_ ?_
        ·intro k268 h;(conv=>whnf);refine inl Tryz.f212 124 (by kernel_rfl) (by kernel_rfl) ⟨rfl,?_⟩;obtain⟨v269,g270,h⟩:=AB h;refine⟨_,_,some [],CZ g270,?_⟩;refine⟨x42.Data.length,X10 _,?_⟩;exact AA wk h
        rintro v267 h;refine sJ h (fun h=>?_) fun h=>AA wk h;obtain⟨v271,g272,h⟩:=AB h;refine⟨_,_,some [],Gn g272,?_⟩;exact AA wk h
       rintro⟨v264,v265⟩ h;exact AA wk h
      rintro⟨v261,v262⟩ h;exact AA wk h
     rintro⟨v256,v257⟩ h;(conv=>whnf);refine .go ?_;exact sJ h (fun h=>AA wk h) fun h=>AA wk h
    replace h:=PY g255 h;refine⟨_,(Ap g55 (Ap g68 (Ap g139 (Ap g154 (Ap g166 (Ap g178 (Ap g213 (Ap g255 bI)))))))),_,rfl,_,rfl,?_⟩;(conv=>whnf);refine .go ?_;(conv=>whnf);refine .go ?_;exact AA wk h
   rintro⟨v44,v45,v46,v47,v48,v49,v50,v51,v52,v53⟩ h;refine⟨_,hwi29,?_⟩;exact hK43 _ _ wk h
  rintro⟨v18,v19,v20,v21,v22,v23,v24,v25,v26,v27⟩ h;exact AA (.swap 104 67 rfl rfl rfl (.swap 105 65 rfl rfl rfl (.swap 106 64 rfl rfl rfl wk))) h
 rintro⟨v5,v6,v7,v8,v9,v10,v11,v12,v13,v14,v15⟩ h;(conv=>whnf);refine .go ?_;refine sJ h ?_ ?_<;>intro h
 ·cases h;exact⟨rfl,rfl⟩
 refine⟨v1.length,X10 _,?_⟩;revert h;refine AG (fun v273=>⟨X::X::yr 2 0::X::yr 4 0::dd 63 ([]),N::N::yB JAC.zv::N::yB [yi v5,yO 64 JAD.toD v13,yb v6,yu v7,yu v8,yi v9,yi v10,yi v11,yO 65 JAB.toD v14,yO 67 JAF.toD v15,yO 56 JAA.toD v273]::nn 51 (yR 88 3 JAA.toD v273::nn 7 (yR 132 2 JAD.toD v13::yR 137 2 JAB.toD v14::N::yR 141 3 JAF.toD v15::nn 166 ([])))⟩) ?_ ?_
 ·intro k274 h;revert h;refine Ac 21 3 JAA.toD rfl (fun i275 v276=>⟨X::X::yr 2 0::X::yr 4 0::dd 16 (y4 v1::yi (v1.length:Int)::yi (i275:Int)::dd 44 ([])),N::N::yB JAC.zv::N::yB [yi v5,yO 64 JAD.toD v13,yb v6,yu v7,yu v8,yi v9,yi v10,yi v11,yO 65 JAB.toD v14,yO 67 JAF.toD v15,yO 56 JAA.toD v276]::nn 51 (yR 88 3 JAA.toD v276::nn 7 (yR 132 2 JAD.toD v13::yR 137 2 JAB.toD v14::N::yR 141 3 JAF.toD v15::nn 166 ([])))⟩) ?_ ?_ ?_
  ·exact wk
  ·rintro v276 K277 h;(conv=>whnf);refine .go ?_;(conv=>whnf);refine BI Cb ?_;exact AA wk h
  rintro next278 i275 x279 v276 K277 hii275 hxi275 hwi275 h hK280;(conv=>whnf);refine .go ?_;(conv=>whnf);refine BD (CQ hii275) ?_;(conv=>whnf);refine .go ?_;refine⟨BF (f:=JAA.toD) hii275,JAA.toD x279,hxi275,rfl,?_⟩;revert h;refine AG (fun v281=>⟨X::X::yr 2 0::X::yr 4 0::X::X::yr 7 0::dd 13 (y4 v1::yi (v1.length:Int)::yi (i275:Int)::dd 22 (yb v281::dd 21 ([]))),N::N::yB JAC.zv::N::yB [yi v5,yO 64 JAD.toD v13,yb v6,yu v7,yu v8,yi v9,yi v10,yi v11,yO 65 JAB.toD v14,yO 67 JAF.toD v15,yO 56 JAA.toD v276]::N::N::yB (JAA.av x279)::nn 48 (yR 88 3 JAA.toD v276::nn 7 (yR 132 2 JAD.toD v13::yR 137 2 JAB.toD v14::N::yR 141 3 JAF.toD v15::nn 166 ([])))⟩) ?_ ?_
  ·intro k282 h;obtain⟨v283,g284,h⟩:=AB h;refine⟨_,_,some [],FD g284,?_⟩;refine sJ h (fun h=>?_) fun h=>AA wk h;obtain⟨v285,g286,h⟩:=AB h;refine⟨_,_,some [],Bl g286,?_⟩;refine sJ h (fun h=>?_) fun h=>AA wk h;refine⟨_,rfl,?_⟩;refine sJ h (fun h=>?_) fun h=>AA wk h;refine⟨x279.Data.length,X10 _,?_⟩;exact AA wk h
  rintro v281 h;revert h;refine AG (fun v287=>⟨X::X::yr 2 0::X::yr 4 0::dd 16 (y4 v1::yi (v1.length:Int)::yi (i275:Int)::dd 44 ([])),N::N::yB JAC.zv::N::yB [yi v5,yO 64 JAD.toD v13,yb v6,yu v7,yu v8,yi v9,yi v10,yi v11,yO 65 JAB.toD v14,yO 67 JAF.toD v15,yO 56 JAA.toD v287]::nn 51 (yR 88 3 JAA.toD v287::nn 7 (yR 132 2 JAD.toD v13::yR 137 2 JAB.toD v14::N::yR 141 3 JAF.toD v15::nn 166 ([])))⟩) ?_ ?_
  ·intro k288 h;refine sJ h (fun h=>?_) fun h=>AA wk h;(conv=>whnf);refine .inl (dO ?_);obtain⟨v289,g290,h⟩:=AB h;refine⟨_,_,FW g290,.inl rfl,?_⟩;refine⟨rfl,?_⟩;obtain⟨v291,g292,h⟩:=AB h;refine⟨rfl,Ab (f:=JAA.toD) (g:=JAA.toD) g292,_,Ag (f:=JAA.toD) g292,?_⟩;(conv=>whnf);refine cO ?_;exact AA wk h
  rintro v287 h;refine⟨_,hwi275,?_⟩;exact hK280 _ _ wk h
 rintro v273 h;refine⟨v273.length,by first | exact X10 _ | rfl | (simp only[X10];omega),?_⟩;(conv=>whnf);refine .go ?_;refine sJ h ?_ ?_<;>intro h
 ·cases h;exact⟨rfl,rfl⟩
 obtain⟨v293,g294,h⟩:=AB h;have g294l:=G0 g294;refine⟨_,_,some [],KO (f:=JAA.toD) (enters_of Tryz.func121 (by kernel_rfl) rfl) (fun h=>Le h) g294,?_⟩;refine⟨rfl,?_⟩;refine⟨rfl,?_⟩;refine⟨rfl,?_⟩;refine⟨(by first | rfl | (simp only[X10];omega)|(simp only[cpy,X10,X21,X11,X18,X17,X20];omega)),?_⟩;cases h;exact⟨rfl,rfl⟩
end Go.AX.Q19
end
