/-
  Texts of one proof, packed: Q19B Q19P7 Q19P8 Q19P9 Q19P10 Q19P12 Q19P13 Q19P14 Q19P15 Q19P16 Q19P17 Q19P18 Q19P19 Q19P20 Q19P22 Q19P23.
-/
import Derived.Test.YtbohbnpaadcfmaaGreatDoorKX4
import Derived.Test.YtbohbnpaadcfmaaGreatDoorKX5
import Derived.Test.YtbohbnpaadcfmaaGreatDoorKX6
import Derived.IntWalk
import Derived.Shelf.SlSortCmp.NoneTotal
import Derived.Shelf.SortM.Plain
import Derived.Shelf.SortM.SortNone
set_option linter.all false
set_option maxRecDepth 100000
set_option maxHeartbeats 4000000
open List renaming length_map→X10,length_append→X11,length_cons→X12,length_nil→X13,mem_singleton→X14,getElem?_eq_getElem→X15,getElem?_eq_some_iff→X16,length_drop→X17,length_take→X18,mem_cons_of_mem→X19,length_replicate→X20,length_set→X21,length_singleton→X22,mem_append→X23
open Option.some renaming injEq→X24,inj→X25
open Prod.mk renaming injEq→X26
open Bool renaming and_eq_true→X27,eq_iff_iff→X28
open Nat renaming le_of_ble_eq_true→X29,eq_of_beq_eq_true→X30,mul_le_mul_right→X31,add_mul→X32
section
namespace Go.Proofs
open Go.Shelf
def Tryz.l120_ren:Go.Shelf.Ren:=⟨fun | 6=>120 | 15=>150 | 14=>149 | 28=>176 | 29=>177 | 20=>168 | 21=>169 | 22=>170 | 23=>171 | 24=>172 | 25=>173 | 26=>174 | 27=>175 | 46=>183 | 47=>184 | 48=>185 | 49=>186 | 50=>187 | 57=>190 | n=>n,fun | 22=>32 | 24=>88 | 25=>164 | 3=>3 | 39=>67 | 0=>0 | 53=>207 | 55=>27 | 4=>4 | 46=>200 | 45=>199 | 50=>204 | 5=>5 | 9=>9 | 66=>215 | 70=>219 | 76=>222 | 77=>223 | n=>n,fun | n=>n⟩
theorem Tryz.l120:Go.Proofs.SlLaysF0.n6 Tryz.prog Tryz.l120_ren:={
 mixed:=by kernel_rfl
 f6:=⟨Tryz.f120.name,by decide,Tryz.func120.trans (congrArg some (by kernel_rfl))⟩
 f14:=⟨Tryz.f149.name,by decide,Tryz.func149.trans (congrArg some (by kernel_rfl))⟩
 f15:=Tryz.func150.trans (congrArg some (by kernel_rfl))
 f20:=⟨Tryz.f168.name,by decide,Tryz.func168.trans (congrArg some (by kernel_rfl))⟩
 f21:=⟨Tryz.f169.name,by decide,Tryz.func169.trans (congrArg some (by kernel_rfl))⟩
 f22:=⟨Tryz.f170.name,by decide,Tryz.func170.trans (congrArg some (by kernel_rfl))⟩
 f23:=⟨Tryz.f171.name,by decide,Tryz.func171.trans (congrArg some (by kernel_rfl))⟩
 f24:=⟨Tryz.f172.name,by decide,Tryz.func172.trans (congrArg some (by kernel_rfl))⟩
 f25:=⟨Tryz.f173.name,by decide,Tryz.func173.trans (congrArg some (by kernel_rfl))⟩
 f26:=⟨Tryz.f174.name,by decide,Tryz.func174.trans (congrArg some (by kernel_rfl))⟩
 f27:=⟨Tryz.f175.name,by decide,Tryz.func175.trans (congrArg some (by kernel_rfl))⟩
 f28:=Tryz.func176.trans (congrArg some (by kernel_rfl))
 f29:=Tryz.func177.trans (congrArg some (by kernel_rfl))
 f46:=⟨Tryz.f183.name,by decide,Tryz.func183.trans (congrArg some (by kernel_rfl))⟩
 f47:=Tryz.func184.trans (congrArg some (by kernel_rfl))
 f48:=Tryz.func185.trans (congrArg some (by kernel_rfl))
 f49:=⟨Tryz.f186.name,by decide,Tryz.func186.trans (congrArg some (by kernel_rfl))⟩
 f50:=⟨Tryz.f187.name,by decide,Tryz.func187.trans (congrArg some (by kernel_rfl))⟩
 f57:=⟨Tryz.f190.name,by decide,Tryz.func190.trans (congrArg some (by kernel_rfl))⟩
 t0:=Tryz.underlying0
 a0:=Tryz.isAgg0
 z0:=Tryz.sizeOf0
 v0:=Tryz.zeroValue0
 t3:=Tryz.underlying3
 a3:=Tryz.isAgg3
 z3:=Tryz.sizeOf3
 v3:=Tryz.zeroValue3
 t4:=Tryz.underlying4
 a4:=Tryz.isAgg4
 z4:=Tryz.sizeOf4
 v4:=Tryz.zeroValue4
 t5:=Tryz.underlying5
 a5:=Tryz.isAgg5
 z5:=Tryz.sizeOf5
 v5:=Tryz.zeroValue5
 t9:=Tryz.underlying9
 a9:=Tryz.isAgg9
 z9:=Tryz.sizeOf9
 v9:=Tryz.zeroValue9
 t22:=Tryz.underlying32
 a22:=Tryz.isAgg32
 z22:=Tryz.sizeOf32
 v22:=Tryz.zeroValue32
 t25:=Tryz.underlying164
 a25:=Tryz.isAgg164
 z25:=Tryz.sizeOf164
 v25:=Tryz.zeroValue164
 t39:=Tryz.underlying67
 a39:=Tryz.isAgg67
 z39:=Tryz.sizeOf67
 v39:=Tryz.zeroValue67
 t45:=Tryz.underlying199
 a45:=Tryz.isAgg199
 z45:=Tryz.sizeOf199
 v45:=Tryz.zeroValue199
 t46:=Tryz.underlying200
 a46:=Tryz.isAgg200
 z46:=Tryz.sizeOf200
 v46:=Tryz.zeroValue200
 t50:=Tryz.underlying204
 a50:=Tryz.isAgg204
 z50:=Tryz.sizeOf204
 v50:=Tryz.zeroValue204
 t53:=Tryz.underlying207
 a53:=Tryz.isAgg207
 z53:=Tryz.sizeOf207
 v53:=Tryz.zeroValue207
 t55:=Tryz.underlying27
 a55:=Tryz.isAgg27
 z55:=Tryz.sizeOf27
 v55:=Tryz.zeroValue27
 t66:=Tryz.underlying215
 a66:=Tryz.isAgg215
 z66:=Tryz.sizeOf215
 v66:=Tryz.zeroValue215
 t70:=Tryz.underlying219
 a70:=Tryz.isAgg219
 z70:=Tryz.sizeOf219
 v70:=Tryz.zeroValue219
 t76:=Tryz.underlying222
 a76:=Tryz.isAgg222
 z76:=Tryz.sizeOf222
 v76:=Tryz.zeroValue222
 t77:=Tryz.underlying223
 a77:=Tryz.isAgg223
 z77:=Tryz.sizeOf223
 v77:=Tryz.zeroValue223 }
end Go.Proofs
namespace Go.Maps
end Go.Maps
namespace Go.AX.Q19
open Go Go.AX Go.Proofs Go.Maps Go.Sort Go.Shelf Go.RowKit
theorem KI {wl:WL}{X:Type}{f:X->D}{cmp:X->X->Option Int}{g:Nat}(eg :∀args w,(callFunc g args).run Tryz.prog w=.ok (.enter g args) w)(hcmp :∀{a b r},cmp a b=some r->Br wl.low Tryz.prog g [.d (f a),.d (f b)] [] (.d (D.i r)) []){l r:List X}(h:D9 cmp l=some r)(hagg :∀x,(f x).isAgg=true:=by exact fun _=>rfl):Br wl Tryz.prog 120 [.own 0 (List.map f l).length,.fn g []] [.row 88 3 (List.map f l) .no] (.tup []) [.row 88 3 (List.map f r) .no]:=
 Uu Tryz.l120 (YG Tryz.func120 (by kernel_rfl) (by kernel_rfl)) Tryz.isAgg88 Tryz.sizeOf88 eg hagg hcmp h
end Go.AX.Q19
end
section
namespace Go.AX.Q19
open Go Go.AX Go.Proofs
variable {wl:Prop}
theorem ED {a0:List UInt8}{a1:List Int}{r:(List UInt8)}(h:Bg a0 a1=some r):yC wl 158 [AV.own 0 (List.map D.u8 a0).length,AV.d (D.l 1 D.i a1)] [.row 5 1 (List.map D.u8 a0) .no] (AV.own 0 (List.map D.u8 r).length) [.row 5 1 (List.map D.u8 r) .no]:=by
 refine oK Tryz.f158 ⟨rfl,?_⟩;unfold Bg at h;refine⟨a1.length,X10 _,?_⟩;revert h;refine AI (fun v1=>⟨yO 0 D.u8 v1::dd 28 ([]),yR 5 1 D.u8 v1::nn 29 ([])⟩) ?_ ?_
 ·intro k2 h;revert h;refine A8 7 1 D.i rfl (fun i3 v4=>⟨yO 0 D.u8 v4::dd 6 (y3 a1::yi (a1.length:Int)::yi (i3:Int)::dd 19 ([])),yR 5 1 D.u8 v4::nn 29 ([])⟩) ?_ ?_ ?_
  ·exact wk
  ·rintro v4 K5 h;(conv=>whnf);refine .go ?_;(conv=>whnf);refine DV Fg ?_;exact AD wk h
  rintro next6 i3 x7 v4 K5 hii3 hxi3 hwi3 h hK8;(conv=>whnf);refine .go ?_;(conv=>whnf);refine Cf (FD hii3) ?_;(conv=>whnf);refine .go ?_;refine⟨C5 (f:=D.i) hii3,D.i x7,hxi3,rfl,?_⟩;refine⟨by decide,_,rfl,?_⟩;refine⟨_,Ak _,?_⟩;refine⟨by decide,_,rfl,?_⟩;refine⟨_,Ak _,?_⟩;refine⟨by decide,_,rfl,?_⟩;refine⟨_,Ak _,?_⟩;refine⟨_,Ak _,?_⟩;refine⟨rfl,?_⟩;obtain⟨v9,g10,h⟩:=AC h;refine⟨rfl,Am (f:=D.u8) (g:=D.u8) g10,_,Ap (f:=D.u8) g10,?_⟩;refine⟨_,hwi3,?_⟩;exact hK8 _ _ wk h
 rintro v1 h;(conv=>whnf);refine .inl ?_;cases h;exact⟨rfl,rfl⟩
theorem FT {a0:List Yd}{r:(List UInt8)}(h:A0 a0=some r):yC wl 157 [AV.d (D.l 2 Yd.toD a0)] [] (.d (D.l 1 D.u8 r)) []:=by
 refine oK Tryz.f157 ⟨rfl,?_⟩;unfold A0 at h;refine⟨a0.length,X10 _,?_⟩;revert h;refine AI (fun v1=>⟨X::X::X::yO 3 D.u8 v1::dd 24 ([]),N::N::N::yR 5 1 D.u8 v1::nn 24 ([])⟩) ?_ ?_
 ·intro k2 h;revert h;refine A8 7 2 Yd.toD rfl (fun i3 v4=>⟨X::X::X::yO 3 D.u8 v4::X::X::X::y2 a0::yi (a0.length:Int)::yi (i3:Int)::dd 18 ([]),N::N::N::yR 5 1 D.u8 v4::nn 24 ([])⟩) ?_ ?_ ?_
  ·exact wk
  ·rintro v4 K5 h;(conv=>whnf);refine .go ?_;(conv=>whnf);refine DV Fg ?_;exact AD wk h
  rintro next6 i3 x7 v4 K5 hii3 hxi3 hwi3 h hK8;(conv=>whnf);refine .go ?_;(conv=>whnf);refine Cf (FD hii3) ?_;(conv=>whnf);refine .go ?_;refine⟨C5 (f:=Yd.toD) hii3,Yd.toD x7,hxi3,rfl,?_⟩;revert h;refine AI (fun v9=>⟨X::X::X::yO 3 D.u8 v4::X::yr 5 0::yv v9::y2 a0::yi (a0.length:Int)::yi (i3:Int)::dd 18 ([]),N::N::N::yR 5 1 D.u8 v4::N::yB (Yd.av x7)::nn 22 ([])⟩) ?_ ?_
  ·intro k10 h;exact sJ h (fun h=>AD wk h) fun h=>AD wk h
  rintro v9 h;(conv=>whnf);refine .inl (dO ?_);refine⟨x7.ASNs.length,X10 _,?_⟩;refine⟨_,Ak _,?_⟩;refine⟨rfl,?_⟩;obtain⟨v11,g12,h⟩:=AC h;refine⟨rfl,Am (f:=D.u8) (g:=D.u8) g12,_,Ap (f:=D.u8) g12,?_⟩;obtain⟨v13,g14,h⟩:=AC h;refine⟨_,_,ED g14,.inl rfl,?_⟩;(conv=>whnf);refine cO ?_;refine⟨_,hwi3,?_⟩;exact hK8 _ _ wk h
 rintro v1 h;(conv=>whnf);refine .inl ?_;(conv=>whnf);refine .inl ?_;refine⟨rfl,?_⟩;cases h;exact⟨rfl,rfl⟩
theorem Ff {a0:List YZ}{r:(List UInt8)}(h:A7 a0=some r):yC wl 159 [AV.d (D.l 2 YZ.toD a0)] [] (.d (D.l 1 D.u8 r)) []:=by
 refine oK Tryz.f159 ⟨rfl,?_⟩;unfold A7 at h;refine⟨a0.length,X10 _,?_⟩;revert h;refine AI (fun v1=>⟨X::X::X::yO 3 D.u8 v1::dd 19 ([]),N::N::N::yR 5 1 D.u8 v1::nn 19 ([])⟩) ?_ ?_
 ·intro k2 h;revert h;refine A8 6 2 YZ.toD rfl (fun i3 v4=>⟨X::X::X::yO 3 D.u8 v4::X::X::y4 a0::yi (a0.length:Int)::yi (i3:Int)::dd 14 ([]),N::N::N::yR 5 1 D.u8 v4::nn 19 ([])⟩) ?_ ?_ ?_
  ·exact wk
  ·rintro v4 K5 h;(conv=>whnf);refine .go ?_;(conv=>whnf);refine DV Fg ?_;exact AD wk h
  rintro next6 i3 x7 v4 K5 hii3 hxi3 hwi3 h hK8;(conv=>whnf);refine .go ?_;(conv=>whnf);refine Cf (FD hii3) ?_;(conv=>whnf);refine .go ?_;refine⟨C5 (f:=YZ.toD) hii3,YZ.toD x7,hxi3,rfl,?_⟩;refine⟨by decide,_,rfl,?_⟩;refine⟨_,rfl,?_⟩;refine⟨rfl,?_⟩;obtain⟨v9,g10,h⟩:=AC h;refine⟨_,_,some [],ED g10,?_⟩;refine⟨_,hwi3,?_⟩;exact hK8 _ _ wk h
 rintro v1 h;(conv=>whnf);refine .inl ?_;(conv=>whnf);refine .inl ?_;refine⟨rfl,?_⟩;cases h;exact⟨rfl,rfl⟩
theorem IR {a0:List Ye}{r:(List UInt8)}(h:By a0=some r):yC wl 160 [AV.d (D.l 3 Ye.toD a0)] [] (.d (D.l 1 D.u8 r)) []:=by
 refine oK Tryz.f160 ⟨rfl,?_⟩;unfold By at h;refine⟨a0.length,X10 _,?_⟩;revert h;refine AI (fun v1=>⟨X::X::X::yO 3 D.u8 v1::dd 19 ([]),N::N::N::yR 5 1 D.u8 v1::nn 19 ([])⟩) ?_ ?_
 ·intro k2 h;revert h;refine A8 6 3 Ye.toD rfl (fun i3 v4=>⟨X::X::X::yO 3 D.u8 v4::X::X::y5 a0::yi (a0.length:Int)::yi (i3:Int)::dd 14 ([]),N::N::N::yR 5 1 D.u8 v4::nn 19 ([])⟩) ?_ ?_ ?_
  ·exact wk
  ·rintro v4 K5 h;(conv=>whnf);refine .go ?_;(conv=>whnf);refine DV Fg ?_;exact AD wk h
  rintro next6 i3 x7 v4 K5 hii3 hxi3 hwi3 h hK8;(conv=>whnf);refine .go ?_;(conv=>whnf);refine Cf (FD hii3) ?_;(conv=>whnf);refine .go ?_;refine⟨C5 (f:=Ye.toD) hii3,Ye.toD x7,hxi3,rfl,?_⟩;refine⟨rfl,?_⟩;obtain⟨v9,g10,h⟩:=AC h;refine⟨_,_,some [],ED g10,?_⟩;refine⟨_,hwi3,?_⟩;exact hK8 _ _ wk h
 rintro v1 h;(conv=>whnf);refine .inl ?_;(conv=>whnf);refine .inl ?_;refine⟨rfl,?_⟩;cases h;exact⟨rfl,rfl⟩
theorem HW {a0:YX}{a1:YX}{r:Int}(h:BW a0 a1=some r):yC wl 161 [AV.d (YX.toD a0),AV.d (YX.toD a1)] [] (.d (D.i r)) []:=by
 refine oK Tryz.f161 ⟨rfl,?_⟩;unfold BW at h;obtain⟨v1,g2,h⟩:=AC h;refine⟨_,_,some [],BA g2,?_⟩;cases h;exact⟨rfl,rfl⟩
theorem C6 {a1:List Int}{r:(List UInt8)}(h:Ao a1=some r):yC wl 158 [.d (D.nil 1),AV.d (D.l 1 D.i a1)] [] (.d (D.l 1 D.u8 r)) []:=by
 refine oK Tryz.f158 ⟨rfl,?_⟩;unfold Ao at h;refine⟨a1.length,X10 _,?_⟩;revert h;refine AI (fun v1=>⟨yO 26 D.u8 v1::dd 28 ([]),nn 26 (yR 5 1 D.u8 v1::N::N::[])⟩) ?_ ?_
 ·intro k2 h;revert h;refine A8 7 1 D.i rfl (fun i3 v4=>⟨yO 26 D.u8 v4::dd 6 (y3 a1::yi (a1.length:Int)::yi (i3:Int)::dd 19 ([])),nn 26 (yR 5 1 D.u8 v4::N::N::[])⟩) ?_ ?_ ?_
  ·exact wk
  ·rintro v4 K5 h;(conv=>whnf);refine .go ?_;(conv=>whnf);refine DV Fg ?_;exact AD wk h
  rintro next6 i3 x7 v4 K5 hii3 hxi3 hwi3 h hK8;(conv=>whnf);refine .go ?_;(conv=>whnf);refine Cf (FD hii3) ?_;(conv=>whnf);refine .go ?_;refine⟨C5 (f:=D.i) hii3,D.i x7,hxi3,rfl,?_⟩;refine⟨by decide,_,rfl,?_⟩;refine⟨_,Ak _,?_⟩;refine⟨by decide,_,rfl,?_⟩;refine⟨_,Ak _,?_⟩;refine⟨by decide,_,rfl,?_⟩;refine⟨_,Ak _,?_⟩;refine⟨_,Ak _,?_⟩;refine⟨rfl,?_⟩;obtain⟨v9,g10,h⟩:=AC h;refine⟨rfl,Am (f:=D.u8) (g:=D.u8) g10,_,Ap (f:=D.u8) g10,?_⟩;refine⟨_,hwi3,?_⟩;exact hK8 _ _ wk h
 rintro v1 h;(conv=>whnf);refine .inl ?_;(conv=>whnf);refine .inl ?_;refine⟨rfl,?_⟩;cases h;exact⟨rfl,rfl⟩
theorem Jo {a0:YX}{a1:YX}{r:Int}(h:DR a0 a1=some r):yC wl 136 [AV.d (YX.toD a0),AV.d (YX.toD a1)] [] (.d (D.i r)) []:=by
 refine oK Tryz.f136 ⟨rfl,?_⟩;unfold DR at h;obtain⟨v1,g2,h⟩:=AC h;refine⟨_,_,some [],BA g2,?_⟩;cases h;exact⟨rfl,rfl⟩
theorem Ep {a1:List Yb}{a2:Bool}{r:(List UInt8)}(h:CH a1 a2=some r):yC wl 96 [.d (D.nil 1),AV.d (D.l 4 Yb.toD a1),AV.d (D.b a2)] [] (.d (D.l 1 D.u8 r)) []:=by
 refine oK Tryz.f96 ⟨rfl,?_⟩;unfold CH at h;refine⟨a1.length,X10 _,?_⟩;revert h;refine AI (fun v1=>⟨yO 25 D.u8 v1::dd 36 ([]),nn 25 (yR 5 1 D.u8 v1::nn 11 ([]))⟩) ?_ ?_
 ·intro k2 h;revert h;refine A8 9 4 Yb.toD rfl (fun i3 v4=>⟨yO 25 D.u8 v4::X::yb a2::dd 6 (y1 a1::yi (a1.length:Int)::yi (i3:Int)::dd 25 ([])),nn 25 (yR 5 1 D.u8 v4::nn 11 ([]))⟩) ?_ ?_ ?_
  ·exact wk
  ·rintro v4 K5 h;(conv=>whnf);refine .go ?_;(conv=>whnf);refine DV Fg ?_;exact AD wk h
  rintro next6 i3 x7 v4 K5 hii3 hxi3 hwi3 h hK8;(conv=>whnf);refine .go ?_;(conv=>whnf);refine Cf (FD hii3) ?_;(conv=>whnf);refine .go ?_;refine⟨C5 (f:=Yb.toD) hii3,Yb.toD x7,hxi3,rfl,?_⟩;revert h;refine AI (fun v9=>⟨yO 25 D.u8 v9::X::yb a2::dd 6 (y1 a1::yi (a1.length:Int)::yi (i3:Int)::dd 25 ([])),nn 25 (yR 5 1 D.u8 v9::nn 11 ([]))⟩) ?_ ?_
  ·intro k10 h;refine sJ h (fun h=>?_) fun h=>AD wk h;(conv=>whnf);refine .inl (dO ?_);refine⟨_,Ak _,?_⟩;refine⟨rfl,?_⟩;obtain⟨v11,g12,h⟩:=AC h;refine⟨rfl,Am (f:=D.u8) (g:=D.u8) g12,_,Ap (f:=D.u8) g12,?_⟩;obtain⟨v13,g14,h⟩:=AC h;refine⟨_,_,DT g14,.inl rfl,?_⟩;refine⟨_,rfl,?_⟩;refine⟨by decide,_,rfl,?_⟩;obtain⟨v15,g16,h⟩:=AC h;refine⟨Eh (f:=D.u8) g16,_,Ek (f:=D.u8) g16,?_⟩;obtain⟨v17,g18,h⟩:=AC h;refine⟨rfl,Am (f:=D.u8) (g:=D.u8) g18,_,Ap (f:=D.u8) g18,?_⟩;(conv=>whnf);refine cO ?_;exact AD wk h
  rintro v9 h;refine⟨_,hwi3,?_⟩;exact hK8 _ _ wk h
 rintro v1 h;(conv=>whnf);refine .inl ?_;(conv=>whnf);refine .inl ?_;refine⟨rfl,?_⟩;cases h;exact⟨rfl,rfl⟩
theorem Ls {a0:Yc}{r:(List YX)}(h:Ea a0=some r):yC wl 95 [AV.d (Yc.toD a0)] [] (.d (D.l 3 YX.toD r)) []:=by
 refine okx 131 Tryz.f95 (by kernel_rfl) (by kernel_rfl) ⟨rfl,?_⟩;unfold Ea at h;revert h;refine AI (fun (v1,v2)=>⟨X::yr 1 0::dd 8 (AV.tup [yO 54 YX.toD v2,yi v1]::dd 44 ([])),N::yB (Yc.av a0)::nn 52 (yR 88 3 YX.toD v2::nn 131 ([]))⟩) ?_ ?_
 ·intro k3 h;(conv=>whnf);refine inl Tryz.f134 55 (by kernel_rfl) (by kernel_rfl) ⟨rfl,?_⟩;obtain⟨v4,g5,h⟩:=AC h;refine⟨_,_,some [],E2 g5,?_⟩;(conv=>whnf);refine .go ?_;refine sJ h (fun h=>AD wk h) fun h=>?_;refine⟨_,Ak _,?_⟩;revert h;refine AI (fun v6=>⟨X::yr 56 0::X::X::yr 59 0::AV.fn 156 [yr 59 0]::dd 14 (AV.tup []::dd 93 ([])),N::yB (Yc.av a0)::some (OB.row 88 3 (List.map YX.toD []) .no)::nn 53 (yB (YY.av a0.YY)::N::N::yB [yO 168 YX.toD v6]::nn 108 (yR 88 3 YX.toD v6::nn 17 ([])))⟩) ?_ ?_
  ·intro k7 h;(conv=>whnf);refine inl Tryz.f156 169 (by kernel_rfl) (by kernel_rfl) ⟨rfl,?_⟩;revert h;refine AI (fun v8=>⟨dd 17 ([]),N::yB (Yc.av a0)::some (OB.row 88 3 (List.map YX.toD []) .no)::nn 53 (yB (YY.av a0.YY)::some (OB.row 88 3 (List.map YX.toD []) .no)::N::yB [yO 185 YX.toD v8]::nn 14 (some (OB.row 5 1 (List.map D.u8 ([(Ab a0.YY.Origin)]:List UInt8)) .yes)::nn 110 (yR 88 3 YX.toD v8::[])))⟩) ?_ ?_
   ·intro k9 h;refine sJ h (fun h=>?_) fun h=>AD wk h;obtain⟨v10,g11,h⟩:=AC h;refine⟨_,CZ (ek:=D.i) (ev:=D.i) (l:=BE) (k:=1) EL,D.i v10,EP (z:=0) rfl g11,_,rfl,?_⟩;(conv=>whnf);refine .inl ?_;refine⟨rfl,?_⟩;refine⟨rfl,?_⟩;obtain⟨_,g12,h⟩:=AC h;refine⟨Gh (g:=YX.toD) g12,?_⟩;exact AD wk h
   rintro v8 h;exact AD (.swap 185 168 rfl rfl rfl wk) h
  rintro v6 h;revert h;refine AI (fun v13=>⟨X::yr 56 0::X::X::yr 59 0::AV.fn 156 [yr 59 0]::dd 108 ([]),N::yB (Yc.av a0)::some (OB.row 88 3 (List.map YX.toD []) .no)::nn 53 (yB (YY.av a0.YY)::N::N::yB [yO 168 YX.toD v13]::nn 108 (yR 88 3 YX.toD v13::nn 17 ([])))⟩) ?_ ?_
  ·intro k14 h;(conv=>whnf);refine .inr (tOB (by kernel_rfl) ?_);refine sJ h ?_ ?_<;>intro h
   ·obtain⟨v15,g16,h⟩:=AC h;refine⟨_,_,FT g16,.inl rfl,?_⟩;(conv=>whnf);refine cO ?_;revert h;refine AI (fun v17=>⟨X::yr 56 0::X::X::yr 59 0::AV.fn 156 [yr 59 0]::dd 28 (AV.tup []::dd 79 ([])),N::yB (Yc.av a0)::some (OB.row 88 3 (List.map YX.toD []) .no)::nn 53 (yB (YY.av a0.YY)::N::N::yB [yO 168 YX.toD v17]::nn 108 (yR 88 3 YX.toD v17::nn 17 ([])))⟩) ?_ ?_
    ·intro k18 h;(conv=>whnf);refine inl Tryz.f156 169 (by kernel_rfl) (by kernel_rfl) ⟨rfl,?_⟩;(conv=>whnf);refine .go ?_;obtain⟨v19,g20,h⟩:=AC h;refine⟨_,CZ (ek:=D.i) (ev:=D.i) (l:=BE) (k:=2) EL,D.i v19,EP (z:=0) rfl g20,_,rfl,?_⟩;refine⟨rfl,?_⟩;obtain⟨v21,g22,h⟩:=AC h;refine⟨rfl,Am (f:=YX.toD) (g:=YX.toD) g22,_,Ap (f:=YX.toD) g22,?_⟩;exact AD wk h
    rintro v17 h;exact AD wk h
   refine⟨a0.YY.Path.length,X10 _,?_⟩;obtain⟨v23,g24,h⟩:=AC h;refine⟨_,_,FT g24,.inl rfl,?_⟩;(conv=>whnf);refine cO ?_;revert h;refine AI (fun v25=>⟨X::yr 56 0::X::X::yr 59 0::AV.fn 156 [yr 59 0]::dd 28 (AV.tup []::dd 79 ([])),N::yB (Yc.av a0)::some (OB.row 88 3 (List.map YX.toD []) .no)::nn 53 (yB (YY.av a0.YY)::N::N::yB [yO 168 YX.toD v25]::nn 108 (yR 88 3 YX.toD v25::nn 17 ([])))⟩) ?_ ?_
   ·intro k26 h;(conv=>whnf);refine inl Tryz.f156 169 (by kernel_rfl) (by kernel_rfl) ⟨rfl,?_⟩;revert h;refine AI (fun v27=>⟨dd 17 ([]),N::yB (Yc.av a0)::some (OB.row 88 3 (List.map YX.toD []) .no)::nn 53 (yB (YY.av a0.YY)::N::N::yB [yO 168 YX.toD v27]::nn 108 (yR 88 3 YX.toD v27::nn 17 ([])))⟩) ?_ ?_
    ·intro k28 h;refine sJ h (fun h=>?_) fun h=>AD wk h;obtain⟨v29,g30,h⟩:=AC h;refine⟨_,CZ (ek:=D.i) (ev:=D.i) (l:=BE) (k:=2) EL,D.i v29,EP (z:=0) rfl g30,_,rfl,?_⟩;refine⟨rfl,?_⟩;obtain⟨v31,g32,h⟩:=AC h;refine⟨rfl,Am (f:=YX.toD) (g:=YX.toD) g32,_,Ap (f:=YX.toD) g32,?_⟩;exact AD wk h
    rintro v27 h;exact AD wk h
   rintro v25 h;exact AD wk h
  rintro v13 h;revert h;refine AI (fun v33=>⟨X::yr 56 0::X::X::yr 59 0::AV.fn 156 [yr 59 0]::dd 108 ([]),N::yB (Yc.av a0)::some (OB.row 88 3 (List.map YX.toD []) .no)::nn 53 (yB (YY.av a0.YY)::N::N::yB [yO 168 YX.toD v33]::nn 108 (yR 88 3 YX.toD v33::nn 17 ([])))⟩) ?_ ?_
  ·intro k34 h;(conv=>whnf);refine .inr (tOB (by kernel_rfl) ?_);refine sJ h ?_ ?_<;>intro h
   ·obtain⟨v35,g36,h⟩:=AC h;refine⟨_,_,DT g36,.inl rfl,?_⟩;(conv=>whnf);refine cO ?_;revert h;refine AI (fun v37=>⟨X::yr 56 0::X::X::yr 59 0::AV.fn 156 [yr 59 0]::dd 43 (AV.tup []::dd 64 ([])),N::yB (Yc.av a0)::some (OB.row 88 3 (List.map YX.toD []) .no)::nn 53 (yB (YY.av a0.YY)::N::N::yB [yO 168 YX.toD v37]::nn 108 (yR 88 3 YX.toD v37::nn 17 ([])))⟩) ?_ ?_
    ·intro k38 h;(conv=>whnf);refine inl Tryz.f156 169 (by kernel_rfl) (by kernel_rfl) ⟨rfl,?_⟩;revert h;refine AI (fun v39=>⟨dd 17 ([]),N::yB (Yc.av a0)::some (OB.row 88 3 (List.map YX.toD []) .no)::nn 53 (yB (YY.av a0.YY)::N::N::yB [yO 168 YX.toD v39]::nn 108 (yR 88 3 YX.toD v39::nn 17 ([])))⟩) ?_ ?_
     ·intro k40 h;refine sJ h (fun h=>?_) fun h=>AD wk h;obtain⟨v41,g42,h⟩:=AC h;refine⟨_,CZ (ek:=D.i) (ev:=D.i) (l:=BE) (k:=3) EL,D.i v41,EP (z:=0) rfl g42,_,rfl,?_⟩;refine⟨rfl,?_⟩;obtain⟨v43,g44,h⟩:=AC h;refine⟨rfl,Am (f:=YX.toD) (g:=YX.toD) g44,_,Ap (f:=YX.toD) g44,?_⟩;exact AD wk h
     rintro v39 h;exact AD wk h
    rintro v37 h;exact AD wk h
   obtain⟨v45,g46,h⟩:=AC h;refine⟨_,_,DT g46,.inl rfl,?_⟩;(conv=>whnf);refine cO ?_;revert h;refine AI (fun _=>⟨X::yr 56 0::X::X::yr 59 0::AV.fn 156 [yr 59 0]::dd 43 (AV.tup []::dd 64 ([])),N::yB (Yc.av a0)::some (OB.row 88 3 (List.map YX.toD []) .no)::nn 53 (yB (YY.av a0.YY)::N::N::yB [yO 168 YX.toD v13]::nn 108 (yR 88 3 YX.toD v13::nn 17 ([])))⟩) ?_ ?_
   ·intro k47 h;(conv=>whnf);refine inl Tryz.f156 169 (by kernel_rfl) (by kernel_rfl) ⟨rfl,?_⟩;(conv=>whnf);refine .go ?_;exact AD wk h
   rintro _ h;exact AD wk h
  rintro v33 h;(conv=>whnf);refine .inr (tOB (by kernel_rfl) ?_);refine⟨rfl,?_⟩;obtain⟨v48,g49,h⟩:=AC h;refine⟨_,_,C6 g49,.inl rfl,?_⟩;(conv=>whnf);refine cO ?_;revert h;refine AI (fun v50=>⟨X::yr 56 0::X::X::yr 59 0::AV.fn 156 [yr 59 0]::dd 52 (AV.tup []::dd 55 ([])),N::yB (Yc.av a0)::some (OB.row 88 3 (List.map YX.toD []) .no)::nn 53 (yB (YY.av a0.YY)::N::N::yB [yO 168 YX.toD v50]::nn 108 (yR 88 3 YX.toD v50::nn 17 ([])))⟩) ?_ ?_
  ·intro k51 h;(conv=>whnf);refine inl Tryz.f156 169 (by kernel_rfl) (by kernel_rfl) ⟨rfl,?_⟩;revert h;refine AI (fun v52=>⟨dd 17 ([]),N::yB (Yc.av a0)::some (OB.row 88 3 (List.map YX.toD []) .no)::nn 53 (yB (YY.av a0.YY)::N::N::yB [yO 168 YX.toD v52]::nn 51 (some (OB.row 3 1 (List.map D.i ([a0.YY.MED]:List Int)) .yes)::nn 56 (yR 88 3 YX.toD v52::nn 17 ([]))))⟩) ?_ ?_
   ·intro k53 h;refine sJ h (fun h=>?_) fun h=>AD wk h;obtain⟨v54,g55,h⟩:=AC h;refine⟨_,CZ (ek:=D.i) (ev:=D.i) (l:=BE) (k:=4) EL,D.i v54,EP (z:=0) rfl g55,_,rfl,?_⟩;refine⟨rfl,?_⟩;obtain⟨v56,g57,h⟩:=AC h;refine⟨rfl,Am (f:=YX.toD) (g:=YX.toD) g57,_,Ap (f:=YX.toD) g57,?_⟩;exact AD wk h
   rintro v52 h;exact AD wk h
  rintro v50 h;(conv=>whnf);refine .inr (tOB (by kernel_rfl) ?_);refine⟨rfl,?_⟩;obtain⟨v58,g59,h⟩:=AC h;refine⟨_,_,C6 g59,.inl rfl,?_⟩;(conv=>whnf);refine cO ?_;revert h;refine AI (fun v60=>⟨X::yr 56 0::X::X::yr 59 0::AV.fn 156 [yr 59 0]::dd 61 (AV.tup []::dd 46 ([])),N::yB (Yc.av a0)::some (OB.row 88 3 (List.map YX.toD []) .no)::nn 53 (yB (YY.av a0.YY)::N::N::yB [yO 168 YX.toD v60]::nn 108 (yR 88 3 YX.toD v60::nn 17 ([])))⟩) ?_ ?_
  ·intro k61 h;(conv=>whnf);refine inl Tryz.f156 169 (by kernel_rfl) (by kernel_rfl) ⟨rfl,?_⟩;revert h;refine AI (fun v62=>⟨dd 17 ([]),N::yB (Yc.av a0)::some (OB.row 88 3 (List.map YX.toD []) .no)::nn 53 (yB (YY.av a0.YY)::N::N::yB [yO 168 YX.toD v62]::nn 60 (some (OB.row 3 1 (List.map D.i ([a0.YY.Pref]:List Int)) .yes)::nn 47 (yR 88 3 YX.toD v62::nn 17 ([]))))⟩) ?_ ?_
   ·intro k63 h;refine sJ h (fun h=>?_) fun h=>AD wk h;obtain⟨v64,g65,h⟩:=AC h;refine⟨_,CZ (ek:=D.i) (ev:=D.i) (l:=BE) (k:=5) EL,D.i v64,EP (z:=0) rfl g65,_,rfl,?_⟩;refine⟨rfl,?_⟩;obtain⟨v66,g67,h⟩:=AC h;refine⟨rfl,Am (f:=YX.toD) (g:=YX.toD) g67,_,Ap (f:=YX.toD) g67,?_⟩;exact AD wk h
   rintro v62 h;exact AD wk h
  rintro v60 h;(conv=>whnf);refine .inr (tOB (by kernel_rfl) ?_);refine⟨a0.YY.Communities.length,X10 _,?_⟩;obtain⟨v68,g69,h⟩:=AC h;refine⟨_,_,Ff g69,.inl rfl,?_⟩;(conv=>whnf);refine cO ?_;revert h;refine AI (fun v70=>⟨X::yr 56 0::X::X::yr 59 0::AV.fn 156 [yr 59 0]::dd 70 (AV.tup []::dd 37 ([])),N::yB (Yc.av a0)::some (OB.row 88 3 (List.map YX.toD []) .no)::nn 53 (yB (YY.av a0.YY)::N::N::yB [yO 168 YX.toD v70]::nn 108 (yR 88 3 YX.toD v70::nn 17 ([])))⟩) ?_ ?_
  ·intro k71 h;(conv=>whnf);refine inl Tryz.f156 169 (by kernel_rfl) (by kernel_rfl) ⟨rfl,?_⟩;revert h;refine AI (fun v72=>⟨dd 17 ([]),N::yB (Yc.av a0)::some (OB.row 88 3 (List.map YX.toD []) .no)::nn 53 (yB (YY.av a0.YY)::N::N::yB [yO 168 YX.toD v72]::nn 108 (yR 88 3 YX.toD v72::nn 17 ([])))⟩) ?_ ?_
   ·intro k73 h;refine sJ h (fun h=>?_) fun h=>AD wk h;obtain⟨v74,g75,h⟩:=AC h;refine⟨_,CZ (ek:=D.i) (ev:=D.i) (l:=BE) (k:=8) EL,D.i v74,EP (z:=0) rfl g75,_,rfl,?_⟩;refine⟨rfl,?_⟩;obtain⟨v76,g77,h⟩:=AC h;refine⟨rfl,Am (f:=YX.toD) (g:=YX.toD) g77,_,Ap (f:=YX.toD) g77,?_⟩;exact AD wk h
   rintro v72 h;exact AD wk h
  rintro v70 h;(conv=>whnf);refine .inr (tOB (by kernel_rfl) ?_);refine⟨a0.YY.Ye.length,X10 _,?_⟩;obtain⟨v78,g79,h⟩:=AC h;refine⟨_,_,IR g79,.inl rfl,?_⟩;(conv=>whnf);refine cO ?_;revert h;refine AI (fun v80=>⟨X::yr 56 0::X::X::yr 59 0::AV.fn 156 [yr 59 0]::dd 79 (AV.tup []::dd 28 ([])),N::yB (Yc.av a0)::some (OB.row 88 3 (List.map YX.toD []) .no)::nn 53 (yB (YY.av a0.YY)::N::N::yB [yO 168 YX.toD v80]::nn 108 (yR 88 3 YX.toD v80::nn 17 ([])))⟩) ?_ ?_
  ·intro k81 h;(conv=>whnf);refine inl Tryz.f156 169 (by kernel_rfl) (by kernel_rfl) ⟨rfl,?_⟩;revert h;refine AI (fun v82=>⟨dd 17 ([]),N::yB (Yc.av a0)::some (OB.row 88 3 (List.map YX.toD []) .no)::nn 53 (yB (YY.av a0.YY)::N::N::yB [yO 168 YX.toD v82]::nn 108 (yR 88 3 YX.toD v82::nn 17 ([])))⟩) ?_ ?_
   ·intro k83 h;refine sJ h (fun h=>?_) fun h=>AD wk h;obtain⟨v84,g85,h⟩:=AC h;refine⟨_,CZ (ek:=D.i) (ev:=D.i) (l:=BE) (k:=32) EL,D.i v84,EP (z:=0) rfl g85,_,rfl,?_⟩;refine⟨rfl,?_⟩;obtain⟨v86,g87,h⟩:=AC h;refine⟨rfl,Am (f:=YX.toD) (g:=YX.toD) g87,_,Ap (f:=YX.toD) g87,?_⟩;exact AD wk h
   rintro v82 h;exact AD wk h
  rintro v80 h;(conv=>whnf);refine .inr (tOB (by kernel_rfl) ?_);refine⟨rfl,?_⟩;obtain⟨v88,g89,h⟩:=AC h;refine⟨_,_,C6 g89,.inl rfl,?_⟩;(conv=>whnf);refine cO ?_;revert h;refine AI (fun v90=>⟨X::yr 56 0::X::X::yr 59 0::dd 89 (AV.tup []::dd 19 ([])),N::yB (Yc.av a0)::some (OB.row 88 3 (List.map YX.toD []) .no)::nn 53 (yB (YY.av a0.YY)::N::N::yB [yO 168 YX.toD v90]::nn 108 (yR 88 3 YX.toD v90::nn 17 ([])))⟩) ?_ ?_
  ·intro k91 h;(conv=>whnf);refine inl Tryz.f156 169 (by kernel_rfl) (by kernel_rfl) ⟨rfl,?_⟩;revert h;refine AI (fun v92=>⟨dd 17 ([]),N::yB (Yc.av a0)::some (OB.row 88 3 (List.map YX.toD []) .no)::nn 53 (yB (YY.av a0.YY)::N::N::yB [yO 168 YX.toD v92]::nn 87 (some (OB.row 3 1 (List.map D.i ([a0.YY.OTC]:List Int)) .yes)::nn 20 (yR 88 3 YX.toD v92::nn 17 ([]))))⟩) ?_ ?_
   ·intro k93 h;refine sJ h (fun h=>?_) fun h=>AD wk h;obtain⟨v94,g95,h⟩:=AC h;refine⟨_,CZ (ek:=D.i) (ev:=D.i) (l:=BE) (k:=35) EL,D.i v94,EP (z:=0) rfl g95,_,rfl,?_⟩;refine⟨rfl,?_⟩;obtain⟨v96,g97,h⟩:=AC h;refine⟨rfl,Am (f:=YX.toD) (g:=YX.toD) g97,_,Ap (f:=YX.toD) g97,?_⟩;exact AD wk h
   rintro v92 h;exact AD wk h
  rintro v90 h;refine⟨a0.YY.Other.length,X10 _,?_⟩;revert h;refine AI (fun v98=>⟨dd 4 (yr 59 0::dd 109 ([])),N::yB (Yc.av a0)::some (OB.row 88 3 (List.map YX.toD []) .no)::nn 56 (yB [yO 168 YX.toD v98]::nn 108 (yR 88 3 YX.toD v98::nn 17 ([])))⟩) ?_ ?_
  ·intro k99 h;revert h;refine A8 96 3 YX.toD rfl (fun i100 v101=>⟨dd 4 (yr 59 0::dd 91 (AV.d (D.l 3 YX.toD a0.YY.Other)::yi (a0.YY.Other.length:Int)::yi (i100:Int)::dd 15 ([]))),N::yB (Yc.av a0)::some (OB.row 88 3 (List.map YX.toD []) .no)::nn 56 (yB [yO 168 YX.toD v101]::nn 108 (yR 88 3 YX.toD v101::nn 17 ([])))⟩) ?_ ?_ ?_
   ·exact wk
   ·rintro v101 K102 h;(conv=>whnf);refine .go ?_;(conv=>whnf);refine DV Fg ?_;exact AD wk h
   rintro next103 i100 x104 v101 K102 hii100 hxi100 hwi100 h hK105;(conv=>whnf);refine .go ?_;(conv=>whnf);refine Cf (FD hii100) ?_;(conv=>whnf);refine .go ?_;refine⟨C5 (f:=YX.toD) hii100,YX.toD x104,hxi100,rfl,?_⟩;obtain⟨v106,g107,h⟩:=AC h;refine⟨_,_,some [],FP g107,?_⟩;refine⟨rfl,?_⟩;obtain⟨v108,g109,h⟩:=AC h;refine⟨rfl,Am (f:=YX.toD) (g:=YX.toD) g109,_,Ap (f:=YX.toD) g109,?_⟩;refine⟨_,hwi100,?_⟩;exact hK105 _ _ wk h
  rintro v98 h;obtain⟨v110,g111,h⟩:=AC h;have g111l:=Jc g111;refine⟨_,_,some [],KI (f:=YX.toD) (enters_of Tryz.func161 (by kernel_rfl) rfl) (fun h=>HW h) g111,?_⟩;exact AD (.swap 168 54 rfl rfl rfl wk) h
 rintro⟨v1,v2⟩ h;revert h;refine AI (fun v112=>⟨X::yr 1 0::X::yO 54 YX.toD v2::dd 18 (yb v112::dd 32 ([])),N::yB (Yc.av a0)::nn 52 (yR 88 3 YX.toD v2::nn 131 ([]))⟩) ?_ ?_
 ·intro k113 h;refine⟨a0.Announce.length,X10 _,?_⟩;exact sJ h (fun h=>AD wk h) fun h=>AD wk h
 rintro v112 h;revert h;refine AI (fun v114=>⟨X::yr 1 0::X::yO 54 YX.toD v114::dd 51 ([]),N::yB (Yc.av a0)::nn 52 (yR 88 3 YX.toD v114::nn 131 ([]))⟩) ?_ ?_
 ·intro k115 h;refine sJ h (fun h=>?_) fun h=>AD wk h;obtain⟨v116,g117,h⟩:=AC h;refine⟨_,_,some [],DT g117,?_⟩;obtain⟨v118,g119,h⟩:=AC h;refine⟨rfl,Am (f:=D.u8) (g:=D.u8) g119,_,Ap (f:=D.u8) g119,?_⟩;(conv=>whnf);refine .inl (dO ?_);refine⟨rfl,?_⟩;obtain⟨v120,g121,h⟩:=AC h;refine⟨rfl,Am (f:=D.u8) (g:=D.u8) g121,_,Ap (f:=D.u8) g121,?_⟩;obtain⟨v122,g123,h⟩:=AC h;refine⟨_,_,G1 g123,.inl rfl,?_⟩;(conv=>whnf);refine .inl ?_;refine⟨rfl,?_⟩;refine⟨rfl,?_⟩;obtain⟨v124,g125,h⟩:=AC h;refine⟨rfl,Am (f:=YX.toD) (g:=YX.toD) g125,_,Ap (f:=YX.toD) g125,?_⟩;(conv=>whnf);refine cO ?_;exact AD wk h
 rintro v114 h;obtain⟨v126,g127,h⟩:=AC h;refine⟨_,_,some [],Ep g127,?_⟩;refine⟨v126.length,X10 _,?_⟩;revert h;refine AI (fun v128=>⟨X::X::X::yO 54 YX.toD v128::dd 51 ([]),nn 54 (yR 88 3 YX.toD v128::nn 131 ([]))⟩) ?_ ?_
 ·intro k129 h;refine sJ h (fun h=>?_) fun h=>AD wk h;obtain⟨v130,g131,h⟩:=AC h;refine⟨rfl,Am (f:=D.u8) (g:=D.u8) g131,_,Ap (f:=D.u8) g131,?_⟩;(conv=>whnf);refine .inl ?_;refine⟨rfl,?_⟩;refine⟨rfl,?_⟩;obtain⟨v132,g133,h⟩:=AC h;refine⟨rfl,Am (f:=YX.toD) (g:=YX.toD) g133,_,Ap (f:=YX.toD) g133,?_⟩;exact AD wk h
 rintro v128 h;obtain⟨v134,g135,h⟩:=AC h;have g135l:=Jc g135;refine⟨_,_,some [],KI (f:=YX.toD) (enters_of Tryz.func136 (by kernel_rfl) rfl) (fun h=>Jo h) g135,?_⟩;(conv=>whnf);refine .inl ?_;(conv=>whnf);refine .inl ?_;refine⟨(by first | rfl | (simp only[X10];omega)|(simp only[cpy,X10,X21,X11,X18,X17,X20];omega)),?_⟩;cases h;exact⟨rfl,rfl⟩
theorem Is {a1:Int}{r:(List UInt8)}(h:DC a1=some r):yC wl 87 [.d (D.nil 1),AV.d (D.i a1)] [] (AV.own 0 (List.map D.u8 r).length) [.row 5 1 (List.map D.u8 r) .no]:=by
 refine oK Tryz.f87 ⟨rfl,?_⟩;unfold DC at h;refine⟨by decide,_,rfl,?_⟩;refine⟨_,Ak _,?_⟩;refine⟨_,Ak _,?_⟩;refine⟨rfl,?_⟩;obtain⟨_,g1,h⟩:=AC h;refine⟨Gh (g:=D.u8) g1,?_⟩;(conv=>whnf);refine .inl ?_;(conv=>whnf);refine .inr ?_;cases h;exact⟨rfl,rfl⟩
theorem HV {a0:Yc}{r:(List UInt8)×Bool}(h:DD a0=some r):yC wl 49 [AV.d (Yc.toD a0)] [] (.tup [.d (D.l 1 D.u8 r.1),.d (D.b r.2)]) []:=by
 refine oK Tryz.f49 ⟨rfl,?_⟩;unfold DD at h;obtain⟨v1,g2,h⟩:=AC h;refine⟨_,_,some [],Ls g2,?_⟩;obtain⟨⟨v3,v4⟩,g5,h⟩:=AC h;refine⟨_,_,some [],Iz g5,?_⟩;obtain⟨v6,g7,h⟩:=AC h;refine⟨_,_,some [],Ep g7,?_⟩;refine⟨v6.length,X10 _,?_⟩;obtain⟨v8,g9,h⟩:=AC h;refine⟨_,_,some [19],Is g9,?_⟩;obtain⟨v10,g11,h⟩:=AC h;refine⟨rfl,Am (f:=D.u8) (g:=D.u8) g11,_,Ap (f:=D.u8) g11,?_⟩;refine⟨v3.length,X10 _,?_⟩;obtain⟨v12,g13,h⟩:=AC h;refine⟨_,_,some [],IF g13,?_⟩;obtain⟨v14,g15,h⟩:=AC h;refine⟨rfl,Am (f:=D.u8) (g:=D.u8) g15,_,Ap (f:=D.u8) g15,?_⟩;obtain⟨v16,g17,h⟩:=AC h;refine⟨_,_,some [],G1 g17,?_⟩;revert h;refine AI (fun v18=>⟨X::X::yO 19 D.u8 v16::yb v18::dd 36 ([]),nn 19 (yR 5 1 D.u8 v16::nn 20 ([]))⟩) ?_ ?_
 ·intro k19 h;refine sJ h (fun h=>?_) fun h=>AD wk h;refine⟨v16.length,by first | exact X10 _ | rfl | (simp only[X10];omega),?_⟩;exact AD wk h
 rintro v18 h;(conv=>whnf);refine .inl ?_;refine⟨rfl,?_⟩;cases h;exact⟨rfl,rfl⟩
theorem G3 {a0:Addr}{r:Int}(h:BQ a0=some r):yC wl 100 [AV.d (Addr.toD a0)] [] (.d (D.i r)) []:=by
 refine oK Tryz.f100 ⟨rfl,?_⟩;unfold BQ at h;(conv=>whnf);refine .go ?_;refine sJ h ?_ ?_<;>intro h
 ·cases h;exact⟨rfl,rfl⟩
 cases h;exact⟨rfl,rfl⟩
theorem Kt {a0:Int}{r:UInt64×UInt64}(h:DF a0=some r):yC wl 137 [AV.d (D.i a0)] [] (.tup [.d (D.u64 r.1),.d (D.u64 r.2)]) []:=by
 refine oK Tryz.f137 ⟨rfl,?_⟩;unfold DF at h;(conv=>whnf);refine .go ?_;refine sJ h ?_ ?_<;>intro h
 ·refine⟨_,rfl,?_⟩;refine⟨_,Aw _,?_⟩;refine⟨Int.natCast_nonneg _,_,Aw _,?_⟩;refine⟨_,Aw _,?_⟩;cases h;exact⟨rfl,rfl⟩
 refine⟨_,Aw _,?_⟩;refine⟨Int.natCast_nonneg _,_,Aw _,?_⟩;refine⟨_,Aw _,?_⟩;cases h;exact⟨rfl,rfl⟩
theorem KY {a0:Addr}{a1:Int}{r:Addr}(h:CP a0 a1=some r):yC wl 101 [AV.d (Addr.toD a0),AV.d (D.i a1)] [] (.d (Addr.toD r)) []:=by
 refine oK Tryz.f101 ⟨rfl,?_⟩;unfold CP at h;obtain⟨v1,g2,h⟩:=AC h;refine⟨_,_,some [],G3 g2,?_⟩;refine⟨_,rfl,?_⟩;obtain⟨⟨v3,v4⟩,g5,h⟩:=AC h;refine⟨_,_,some [],Kt g5,?_⟩;refine⟨_,Aw _,?_⟩;refine⟨_,Aw _,?_⟩;cases h;exact⟨rfl,rfl⟩
theorem Kq {a0:Yb}{r:Bool}(h:D4 a0=some r):yC wl 52 [AV.d (Yb.toD a0)] [] (.d (D.b r)) []:=by
 refine oK Tryz.f52 ⟨rfl,?_⟩;unfold D4 at h;revert h;refine AI (fun v1=>⟨X::X::yb v1::dd 26 ([]),nn 29 ([])⟩) ?_ ?_
 ·intro k2 h;(conv=>whnf);refine .inl (dO ?_);obtain⟨v3,g4,h⟩:=AC h;refine⟨_,_,Fa g4,.inl rfl,?_⟩;refine sJ h ?_ ?_<;>intro h
  ·refine sJ h ?_ ?_<;>intro h
   ·obtain⟨v5,g6,h⟩:=AC h;refine⟨_,_,G3 g6,.inl rfl,?_⟩;refine sJ h ?_ ?_<;>intro h
    ·obtain⟨v7,g8,h⟩:=AC h;refine⟨_,_,KY g8,.inl rfl,?_⟩;(conv=>whnf);refine cO ?_;exact AD wk h
    (conv=>whnf);refine cO ?_;exact AD wk h
   (conv=>whnf);refine cO ?_;exact AD wk h
  (conv=>whnf);refine cO ?_;exact AD wk h
 rintro v1 h;cases h;exact⟨rfl,rfl⟩
theorem Ij {a0:Yb}{r:Bool}(h:C0 a0=some r):yC wl 51 [AV.d (Yb.toD a0)] [] (.d (D.b r)) []:=by
 refine oK Tryz.f51 ⟨rfl,?_⟩;unfold C0 at h;obtain⟨v1,g2,h⟩:=AC h;refine⟨_,_,some [],Kq g2,?_⟩;cases h;exact⟨rfl,rfl⟩
theorem Kv {a0:YY}{r:Bool}(h:D3 a0=some r):yC wl 103 [AV.d (YY.toD a0)] [] (.d (D.b r)) []:=by
 refine okx 2 Tryz.f103 (by kernel_rfl) (by kernel_rfl) ⟨rfl,?_⟩;unfold D3 at h;revert h;refine AI (fun _=>⟨X::yr 1 0::X::X::AV.d (D.agg [D.i (-1),D.nil 2,D.b false,D.u64 (0:UInt64),D.u64 (0:UInt64),D.i (-1),D.i (-1),D.i (-1),D.nil 2,D.nil 3,D.nil 3])::dd 51 ([]),N::yB (YY.av a0)::nn 56 ([])⟩) ?_ ?_
 ·intro k1 h;(conv=>whnf);refine inl Tryz.f60 56 (by kernel_rfl) (by kernel_rfl) ⟨rfl,?_⟩;exact AD wk h
 rintro _ h;revert h;refine AI (fun v2=>⟨X::X::yb v2::dd 53 ([]),nn 58 ([])⟩) ?_ ?_
 ·intro k3 h;refine sJ h (fun h=>?_) fun h=>AD wk h;refine sJ h (fun h=>?_) fun h=>AD wk h;refine sJ h (fun h=>?_) fun h=>AD wk h;refine sJ h (fun h=>?_) fun h=>AD wk h;refine sJ h (fun h=>?_) fun h=>AD wk h;refine⟨a0.Path.length,X10 _,?_⟩;refine⟨a0.Communities.length,X10 _,?_⟩;refine⟨_,rfl,?_⟩;refine⟨a0.Ye.length,X10 _,?_⟩;refine⟨_,rfl,?_⟩;refine⟨a0.Other.length,X10 _,?_⟩;refine⟨_,rfl,?_⟩;exact AD wk h
 rintro v2 h;cases h;exact⟨rfl,rfl⟩
theorem Jx {a0:Yb}{a1:Yc}{r:Bool×Yc}(h:Cb a0 a1=some r):yC wl 104 [AV.d (Yb.toD a0),.ref 0 0] [.box (Yc.av a1)] (.d (D.b r.1)) [.box (Yc.av r.2)]:=by
 refine oK Tryz.f104 ⟨rfl,?_⟩;unfold Cb at h;cases h;exact⟨rfl,rfl⟩
theorem BV {a0:List Yb}{a1c0:Yc}{r:Int×Yc}(h:AU a0 a1c0=some r):yC wl 102 [AV.d (D.l 4 Yb.toD a0),AV.fn 104 [.ref 0 0]] [.box (Yc.av a1c0)] (.d (D.i r.1)) [.box (Yc.av r.2)]:=by
 refine oK Tryz.f102 ⟨rfl,?_⟩;unfold AU at h;refine⟨a0.length,X10 _,?_⟩;revert h;refine AI (fun v1=>⟨dd 19 ([]),yB (Yc.av v1)::nn 19 ([])⟩) ?_ ?_
 ·intro k2 h;revert h;refine A8 6 4 Yb.toD rfl (fun i3 v4=>⟨y1 a0::AV.fn 104 [yr 0 0]::dd 4 (y1 a0::yi (a0.length:Int)::yi (i3:Int)::dd 10 ([])),yB (Yc.av v4)::nn 19 ([])⟩) ?_ ?_ ?_
  ·exact wk
  ·rintro v4 K5 h;(conv=>whnf);refine .go ?_;(conv=>whnf);refine DV Fg ?_;exact AD wk h
  rintro next6 i3 x7 v4 K5 hii3 hxi3 hwi3 h hK8;(conv=>whnf);refine .go ?_;(conv=>whnf);refine Cf (FD hii3) ?_;(conv=>whnf);refine .go ?_;refine⟨C5 (f:=Yb.toD) hii3,Yb.toD x7,hxi3,rfl,?_⟩;obtain⟨⟨v9,v10⟩,g11,h⟩:=AC h;refine⟨_,_,some [],Jx g11,?_⟩;(conv=>whnf);refine .go ?_;refine sJ h ?_ ?_<;>intro h
  ·cases h;exact⟨rfl,rfl⟩
  refine⟨_,hwi3,?_⟩;exact hK8 _ _ wk h
 rintro v1 h;cases h;exact⟨rfl,rfl⟩
theorem BM {a0:List Yb}{a1c0:Yc}{r:Bool×Yc}(h:AQ a0 a1c0=some r):yC wl 53 [AV.d (D.l 4 Yb.toD a0),AV.fn 104 [.ref 0 0]] [.box (Yc.av a1c0)] (.d (D.b r.1)) [.box (Yc.av r.2)]:=by
 refine oK Tryz.f53 ⟨rfl,?_⟩;unfold AQ at h;obtain⟨⟨v1,v2⟩,g3,h⟩:=AC h;refine⟨_,_,some [],BV g3,?_⟩;cases h;exact⟨rfl,rfl⟩
theorem Lx {a0:Yc}{r:Bool}(h:EV a0=some r):yC wl 54 [AV.d (Yc.toD a0)] [] (.d (D.b r)) []:=by
 refine oK Tryz.f54 ⟨rfl,?_⟩;unfold EV at h;refine⟨a0.Announce.length,X10 _,?_⟩;(conv=>whnf);refine .go ?_;refine sJ h ?_ ?_<;>intro h
 ·obtain⟨v1,g2,h⟩:=AC h;refine⟨_,_,some [],Kv g2,?_⟩;cases h;exact⟨rfl,rfl⟩
 revert h;refine AI (fun v3=>⟨X::X::yb v3::dd 32 ([]),nn 35 ([])⟩) ?_ ?_
 ·intro k4 h;obtain⟨v5,g6,h⟩:=AC h;refine⟨_,_,some [],E2 g6,?_⟩;refine sJ h (fun h=>?_) fun h=>AD wk h;refine sJ h (fun h=>?_) fun h=>AD wk h;refine sJ h (fun h=>?_) fun h=>AD wk h;obtain⟨⟨v7,v8⟩,g9,h⟩:=AC h;refine⟨_,_,some [],BM g9,?_⟩;exact AD wk h
 rintro v3 h;cases h;exact⟨rfl,rfl⟩
theorem BP {a0:List Yb}{r:Int}(h:Ad a0=some r):yC wl 102 [AV.d (D.l 4 Yb.toD a0),AV.fn 51 []] [] (.d (D.i r)) []:=by
 refine oK Tryz.f102 ⟨rfl,?_⟩;unfold Ad at h;refine⟨a0.length,X10 _,?_⟩;revert h;refine AI (fun _=>⟨dd 19 ([]),nn 19 ([])⟩) ?_ ?_
 ·intro k1 h;revert h;refine A8 6 4 Yb.toD rfl (fun i2 _=>⟨y1 a0::AV.fn 51 []::dd 4 (y1 a0::yi (a0.length:Int)::yi (i2:Int)::dd 10 ([])),nn 19 ([])⟩) ?_ ?_ ?_
  ·exact wk
  ·rintro _ K3 h;(conv=>whnf);refine .go ?_;(conv=>whnf);refine DV Fg ?_;exact AD wk h
  rintro next4 i2 x5 _ K3 hii2 hxi2 hwi2 h hK6;(conv=>whnf);refine .go ?_;(conv=>whnf);refine Cf (FD hii2) ?_;(conv=>whnf);refine .go ?_;refine⟨C5 (f:=Yb.toD) hii2,Yb.toD x5,hxi2,rfl,?_⟩;obtain⟨v7,g8,h⟩:=AC h;refine⟨_,_,some [],Ij g8,?_⟩;(conv=>whnf);refine .go ?_;refine sJ h ?_ ?_<;>intro h
  ·cases h;exact⟨rfl,rfl⟩
  refine⟨_,hwi2,?_⟩;exact hK6 _ _ wk h
 rintro _ h;cases h;exact⟨rfl,rfl⟩
theorem Ai {a0:List Yb}{r:Bool}(h:AP a0=some r):yC wl 53 [AV.d (D.l 4 Yb.toD a0),AV.fn 51 []] [] (.d (D.b r)) []:=by
 refine oK Tryz.f53 ⟨rfl,?_⟩;unfold AP at h;obtain⟨v1,g2,h⟩:=AC h;refine⟨_,_,some [],BP g2,?_⟩;cases h;exact⟨rfl,rfl⟩
theorem KX {a0:Yc}{r:Bool}(h:Dw a0=some r):yC wl 20 [AV.d (Yc.toD a0)] [] (.d (D.b r)) []:=by
 refine oK Tryz.f20 ⟨rfl,?_⟩;unfold Dw at h;revert h;refine AI (fun v1=>⟨X::yr 1 0::dd 30 (yb v1::dd 6 ([])),N::yB (Yc.av a0)::nn 37 ([])⟩) ?_ ?_
 ·intro k2 h;refine⟨a0.Withdraw.length,X10 _,?_⟩;refine sJ h (fun h=>AD wk h) fun h=>?_;refine⟨a0.Announce.length,X10 _,?_⟩;refine sJ h (fun h=>AD wk h) fun h=>?_;obtain⟨v3,g4,h⟩:=AC h;refine⟨_,_,some [],Ai g4,?_⟩;refine sJ h (fun h=>AD wk h) fun h=>?_;obtain⟨v5,g6,h⟩:=AC h;refine⟨_,_,some [],Ai g6,?_⟩;refine sJ h (fun h=>AD wk h) fun h=>?_;obtain⟨v7,g8,h⟩:=AC h;refine⟨_,_,some [],Lx g8,?_⟩;exact AD wk h
 rintro v1 h;(conv=>whnf);refine .go ?_;refine sJ h ?_ ?_<;>intro h
 ·cases h;exact⟨rfl,rfl⟩
 obtain⟨⟨v9,v10⟩,g11,h⟩:=AC h;refine⟨_,_,some [],HV g11,?_⟩;cases h;exact⟨rfl,rfl⟩
theorem Jh {a0:Yc}{r:(List UInt8)×Int}(h:CY a0=some r):yC wl 18 [AV.d (Yc.toD a0)] [] (.tup [.d (D.l 1 D.u8 r.1),.d (D.i r.2)]) []:=by
 refine oK Tryz.f18 ⟨rfl,?_⟩;unfold CY at h;obtain⟨v1,g2,h⟩:=AC h;refine⟨_,_,some [],KX g2,?_⟩;(conv=>whnf);refine .go ?_;refine sJ h ?_ ?_<;>intro h
 ·cases h;exact⟨rfl,rfl⟩
 obtain⟨⟨v3,v4⟩,g5,h⟩:=AC h;refine⟨_,_,some [],HV g5,?_⟩;cases h;exact⟨rfl,rfl⟩
theorem NE {a0:List UInt8}{r:Int}(h:E6 a0=some r):yC wl 72 [AV.d (D.l 1 D.u8 a0)] [] (.d (D.i r)) []:=by
 refine oK Tryz.f72 ⟨rfl,?_⟩;unfold E6 at h;(conv=>whnf);refine .inl (dO ?_);obtain⟨v1,g2,h⟩:=AC h;refine⟨CJ (f:=D.u8) g2,D.u8 v1,CM (f:=D.u8) g2,rfl,?_⟩;refine⟨_,Ez v1,?_⟩;refine⟨by decide,_,rfl,?_⟩;obtain⟨v3,g4,h⟩:=AC h;refine⟨CJ (f:=D.u8) g4,D.u8 v3,CM (f:=D.u8) g4,rfl,?_⟩;refine⟨_,Ez v3,?_⟩;refine⟨_,rfl,?_⟩;(conv=>whnf);refine cO ?_;cases h;exact⟨rfl,rfl⟩
theorem HZ {a0:List UInt8}{a1:List UInt8}{r:Bool}(h:bytes_Equal a0 a1=some r):yC wl 71 [AV.d (D.l 1 D.u8 a0),AV.d (D.l 1 D.u8 a1)] [] (.d (D.b r)) []:=by
 refine oK Tryz.f71 ⟨rfl,?_⟩;unfold bytes_Equal at h;refine⟨a0,rfl,?_⟩;refine⟨a1,rfl,?_⟩;cases h;exact⟨rfl,rfl⟩
theorem IP {a0:List UInt8}{a1:List UInt8}{r:Bool}(h:bytes_HasPrefix a0 a1=some r):yC wl 83 [AV.d (D.l 1 D.u8 a0),AV.d (D.l 1 D.u8 a1)] [] (.d (D.b r)) []:=by
 refine oK Tryz.f83 ⟨rfl,?_⟩;unfold bytes_HasPrefix at h;revert h;refine AI (fun v1=>⟨dd 4 (yb v1::dd 13 ([])),nn 18 ([])⟩) ?_ ?_
 ·intro k2 h;refine⟨a0.length,X10 _,?_⟩;refine⟨a1.length,X10 _,?_⟩;refine sJ h (fun h=>?_) fun h=>AD wk h;refine⟨a1.length,X10 _,?_⟩;obtain⟨v3,g4,h⟩:=AC h;refine⟨Eh (f:=D.u8) g4,_,Ek (f:=D.u8) g4,?_⟩;obtain⟨v5,g6,h⟩:=AC h;refine⟨_,_,some [],HZ g6,?_⟩;exact AD wk h
 rintro v1 h;cases h;exact⟨rfl,rfl⟩
theorem Lc {a0:List UInt8}{r:Bool×Bool}(h:FW a0=some r):yC wl 31 [AV.d (D.l 1 D.u8 a0)] [] (.tup [.d (D.b r.1),.d (D.b r.2)]) []:=by
 refine oK Tryz.f31 ⟨rfl,?_⟩;unfold FW at h;obtain⟨_,g1,h⟩:=AC h;refine⟨Qg g1 (X29 rfl),D.u8 (0:UInt8),rfl,(List.map D.u8 (List.replicate (Int.toNat 4) (0:UInt8))),List.map_replicate.symm,?_⟩;refine⟨rfl,?_⟩;obtain⟨v2,g3,h⟩:=AC h;refine⟨_,_,none,HZ g3,?_⟩;(conv=>whnf);refine .go ?_;refine sJ h ?_ ?_<;>intro h
 ·cases h;exact⟨rfl,rfl⟩
 exact nomatch h
theorem Bl {r:Bool}(h:BU=some r):yC wl 24 [] [] (.d (D.b r)) []:=by
 refine oK Tryz.f24 ⟨rfl,?_⟩;unfold BU at h;(conv=>whnf);refine .inl (dO ?_);obtain⟨v1,g2,h⟩:=AC h;refine⟨_,_,Lr g2,.inl rfl,?_⟩;refine⟨rfl,?_⟩;obtain⟨⟨v3,v4⟩,g5,h⟩:=AC h;refine⟨_,_,Jh g5,.inl rfl,?_⟩;(conv=>whnf);refine cO ?_;refine⟨rfl,?_⟩;obtain⟨⟨v6,v7⟩,g8,h⟩:=AC h;refine⟨_,_,none,Lc g8,?_⟩;revert h;refine AI (fun v9=>⟨yb v9::dd 34 ([]),nn 35 ([])⟩) ?_ ?_
 ·intro k10 h;refine sJ h (fun h=>?_) fun h=>AD wk h;refine⟨v3,rfl,?_⟩;refine sJ h (fun h=>?_) fun h=>AD wk h;exact sJ h (fun h=>AD wk h) fun h=>AD wk h
 rintro v9 h;cases h;exact⟨rfl,rfl⟩
theorem EM {a0:List UInt8}{r:Bool}(h:DX a0=some r):yC wl 26 [AV.d (D.l 1 D.u8 a0)] [] (.d (D.b r)) []:=by
 refine oK Tryz.f26 ⟨rfl,?_⟩;unfold DX at h;refine⟨a0.length,X10 _,?_⟩;cases h;exact⟨rfl,rfl⟩
theorem HT {a0:List UInt8}{a1:Int}{a2:Int}{r:(List UInt8)}(h:Do a0 a1 a2=some r):yC wl 28 [AV.d (D.l 1 D.u8 a0),AV.d (D.i a1),AV.d (D.i a2)] [] (.d (D.l 1 D.u8 r)) []:=by
 refine oK Tryz.f28 ⟨rfl,?_⟩;unfold Do at h;obtain⟨_,g1,h⟩:=AC h;refine⟨Gh (g:=D.u8) g1,?_⟩;refine⟨a0.length,by first | exact X10 _ | rfl | (simp only[X10];omega),?_⟩;(conv=>whnf);refine .go ?_;refine sJ h ?_ ?_<;>intro h
 ·refine⟨_,Ak _,?_⟩;(conv=>whnf);refine .inl ?_;(conv=>whnf);refine .inl ?_;refine⟨rfl,?_⟩;cases h;exact⟨rfl,rfl⟩
 refine⟨a0.length,by first | exact X10 _ | rfl | (simp only[X10];omega),?_⟩;obtain⟨v2,g3,h⟩:=AC h;refine⟨_,_,some [],A5 g3,?_⟩;refine⟨by decide,_,rfl,?_⟩;obtain⟨v4,g5,h⟩:=AC h;refine⟨_,_,some [],A5 g5,?_⟩;(conv=>whnf);refine .go ?_;(conv=>whnf);refine .go ?_;refine sJ h ?_ ?_<;>intro h
 ·refine⟨_,Ak _,?_⟩;obtain⟨v6,g7,h⟩:=AC h;refine⟨rfl,CJ (f:=D.u8) g7,?_⟩;obtain⟨v8,g9,h⟩:=AC h;have g9l:=LO g9;refine⟨rfl,rfl,D.u8 v6,(CM (f:=D.u8) g7),?_⟩;refine⟨_,Q2 (f:=D.u8) g9,?_⟩;(conv=>whnf);refine .inl ?_;(conv=>whnf);refine .inl ?_;refine⟨(by first | rfl | (simp only[X10];omega)|(simp only[cpy,X10,X21,X11,X18,X17,X20];omega)),?_⟩;cases h;exact⟨rfl,rfl⟩
 (conv=>whnf);refine .go ?_;refine sJ h ?_ ?_<;>intro h
 ·(conv=>whnf);refine .inl (dO ?_);(conv=>whnf);refine .inr (.inl ?_);obtain⟨_,g10,h⟩:=AC h;have g12c:=Dz g10;refine⟨RD (f:=D.u8) g10,rfl,(Int.toNat 0),(Int.toNat v2-Int.toNat 0),rfl,rfl,?_⟩;refine⟨_,rfl,?_⟩;(conv=>whnf);refine .inr (.inl ?_);obtain⟨_,g11,h⟩:=AC h;have g14c:=Dz g11;refine⟨OY (f:=D.u8) g11,rfl,(Int.toNat (AT (v2+1))),(Int.toNat (a0.length:Int)-Int.toNat (AT (v2+1))),rfl,(by rw[X10]),?_⟩;refine⟨(by first | rfl | (simp only[X10,X21];omega)|(simp only[cpy,X10,X21,X11,X18,X17,X20];omega)),List.map D.u8 (List.take (Int.toNat (a0.length:Int)-Int.toNat (AT (v2+1))) (List.drop (Int.toNat (AT (v2+1))) a0)),O8,?_⟩;obtain⟨v12,g13,h⟩:=AC h;refine⟨rfl,rfl,(by simp only[X10];omega),XS (g:=D.u8) g13 (by omega),_,Xn (f:=D.u8) g13,?_⟩;(conv=>whnf);refine cO ?_;(conv=>whnf);refine .inl ?_;(conv=>whnf);refine .inl ?_;refine⟨rfl,?_⟩;cases h;exact⟨rfl,rfl⟩
 (conv=>whnf);refine .go ?_;refine sJ h ?_ ?_<;>intro h
 ·(conv=>whnf);refine .inl (dO ?_);(conv=>whnf);refine .inr (.inl ?_);obtain⟨_,g14,h⟩:=AC h;have g18c:=Dz g14;refine⟨RD (f:=D.u8) g14,rfl,(Int.toNat 0),(Int.toNat v2-Int.toNat 0),rfl,rfl,?_⟩;refine⟨(by first | rfl | (simp only[X10,X21];omega)|(simp only[cpy,X10,X21,X11,X18,X17,X20];omega)),List.map D.u8 (List.take (Int.toNat v2-Int.toNat 0) (List.drop (Int.toNat 0) a0)),O8,?_⟩;obtain⟨_,g15,h⟩:=AC h;refine⟨Gh (g:=D.u8) g15,?_⟩;refine⟨_,Ak _,?_⟩;refine⟨rfl,?_⟩;obtain⟨v16,g17,h⟩:=AC h;refine⟨rfl,Am (f:=D.u8) (g:=D.u8) g17,_,Ap (f:=D.u8) g17,?_⟩;(conv=>whnf);refine .inr (.inl ?_);obtain⟨_,g18,h⟩:=AC h;have g24c:=Dz g18;refine⟨OY (f:=D.u8) g18,rfl,(Int.toNat v2),(Int.toNat (a0.length:Int)-Int.toNat v2),rfl,(by rw[X10]),?_⟩;refine⟨(by first | rfl | (simp only[X10,X21];omega)|(simp only[cpy,X10,X21,X11,X18,X17,X20];omega)),List.map D.u8 (List.take (Int.toNat (a0.length:Int)-Int.toNat v2) (List.drop (Int.toNat v2) a0)),O8,?_⟩;obtain⟨v19,g20,h⟩:=AC h;refine⟨rfl,Am (f:=D.u8) (g:=D.u8) g20,_,Ap (f:=D.u8) g20,?_⟩;(conv=>whnf);refine cO ?_;(conv=>whnf);refine .inl ?_;(conv=>whnf);refine .inl ?_;refine⟨rfl,?_⟩;cases h;exact⟨rfl,rfl⟩
 (conv=>whnf);refine .inl ?_;refine⟨rfl,?_⟩;obtain⟨v21,g22,h⟩:=AC h;refine⟨Eh (f:=D.u8) g22,_,Ek (f:=D.u8) g22,?_⟩;cases h;exact⟨rfl,rfl⟩
theorem D5 {a0:Ya}{r:(List UInt8)×Int}(h:CN a0=some r):yC wl 38 [AV.d (Ya.toD a0)] [] (.tup [.d (D.l 1 D.u8 r.1),.d (D.i r.2)]) []:=by
 refine oK Tryz.f38 ⟨rfl,?_⟩;unfold CN at h;(conv=>whnf);refine .go ?_;revert h;refine AI (fun v1=>⟨X::yr 1 0::dd 4 (yb v1::dd 37 ([])),N::yB (Ya.av a0)::nn 42 ([])⟩) ?_ ?_
 ·intro k2 h;exact sJ h (fun h=>AD wk h) fun h=>AD wk h
 rintro v1 h;(conv=>whnf);refine .go ?_;refine sJ h ?_ ?_<;>intro h
 ·(conv=>whnf);refine .inl ?_;refine⟨rfl,?_⟩;cases h;exact⟨rfl,rfl⟩
 refine⟨a0.Body.length,X10 _,?_⟩;(conv=>whnf);refine .go ?_;refine sJ h ?_ ?_<;>intro h
 ·(conv=>whnf);refine .inl ?_;refine⟨rfl,?_⟩;cases h;exact⟨rfl,rfl⟩
 revert h;refine AI (fun v3=>⟨X::yr 1 0::X::X::yO 4 D.u8 v3::dd 39 ([]),N::yB (Ya.av a0)::N::N::yR 5 1 D.u8 v3::nn 39 ([])⟩) ?_ ?_
 ·intro k4 h;revert h;refine E5 (fun (v5,v6)=>⟨X::yr 1 0::X::X::yO 4 D.u8 v6::dd 15 (yi v5::dd 23 ([])),N::yB (Ya.av a0)::N::N::yR 5 1 D.u8 v6::nn 39 ([])⟩) ?_ ?_
  ·exact wk
  rintro next7 ⟨v5,v6⟩ K8 h hK9;(conv=>whnf);refine .go ?_;refine sJ h (fun h=>?_) fun h=>AD wk h;(conv=>whnf);refine .go ?_;refine⟨rfl,?_⟩;obtain⟨v10,g11,h⟩:=AC h;refine⟨rfl,Am (f:=D.u8) (g:=D.u8) g11,_,Ap (f:=D.u8) g11,?_⟩;refine⟨_,rfl,?_⟩;exact hK9 _ _ wk h
 rintro v3 h;refine⟨a0.Body.length,X10 _,?_⟩;refine⟨_,rfl,?_⟩;(conv=>whnf);refine .inl (dO ?_);refine⟨by decide,_,rfl,?_⟩;refine⟨_,Ak _,?_⟩;refine⟨_,Ak _,?_⟩;refine⟨_,Ak _,?_⟩;refine⟨rfl,?_⟩;obtain⟨v12,g13,h⟩:=AC h;refine⟨rfl,Am (f:=D.u8) (g:=D.u8) g13,_,Ap (f:=D.u8) g13,?_⟩;obtain⟨v14,g15,h⟩:=AC h;refine⟨rfl,Am (f:=D.u8) (g:=D.u8) g15,_,Ap (f:=D.u8) g15,?_⟩;(conv=>whnf);refine cO ?_;(conv=>whnf);refine .inl ?_;refine⟨rfl,?_⟩;cases h;exact⟨rfl,rfl⟩
theorem IL {a0:UInt64}{a1:UInt64}{r:UInt64×UInt64}(h:Ej a0 a1=some r):yC wl 180 [AV.d (D.u64 a0),AV.d (D.u64 a1)] [] (.tup [.d (D.u64 r.1),.d (D.u64 r.2)]) []:=by
 refine oK Tryz.f180 ⟨rfl,?_⟩;unfold Ej at h;refine⟨_,Aw _,?_⟩;refine⟨by decide,_,Gp a0 _,?_⟩;refine⟨_,Aw _,?_⟩;refine⟨by decide,_,Gp a1 _,?_⟩;refine⟨_,Aw _,?_⟩;refine⟨_,Aw _,?_⟩;refine⟨by decide,_,Gp (AL (((AL ((BitVec.ofInt 64 (a0.toNat:Int) &&& BitVec.ofInt 64 4294967295).toNat:Int)).toNat:Int)*((AL ((BitVec.ofInt 64 (a1.toNat:Int) &&& BitVec.ofInt 64 4294967295).toNat:Int)).toNat:Int))) _,?_⟩;refine⟨_,Aw _,?_⟩;refine⟨_,Aw _,?_⟩;refine⟨by decide,_,Gp (AL (((AL (((AL (Int.fdiv (a0.toNat:Int) (2^(min (Int.toNat 32) 64)))).toNat:Int)*((AL ((BitVec.ofInt 64 (a1.toNat:Int) &&& BitVec.ofInt 64 4294967295).toNat:Int)).toNat:Int))).toNat:Int)+((AL (Int.fdiv ((AL (((AL ((BitVec.ofInt 64 (a0.toNat:Int) &&& BitVec.ofInt 64 4294967295).toNat:Int)).toNat:Int)*((AL ((BitVec.ofInt 64 (a1.toNat:Int) &&& BitVec.ofInt 64 4294967295).toNat:Int)).toNat:Int))).toNat:Int) (2^(min (Int.toNat 32) 64)))).toNat:Int))) _,?_⟩;refine⟨_,Aw _,?_⟩;refine⟨_,Aw _,?_⟩;refine⟨_,Aw _,?_⟩;refine⟨_,Aw _,?_⟩;refine⟨by decide,_,Gp (AL (((AL ((BitVec.ofInt 64 ((AL (((AL (((AL (Int.fdiv (a0.toNat:Int) (2^(min (Int.toNat 32) 64)))).toNat:Int)*((AL ((BitVec.ofInt 64 (a1.toNat:Int) &&& BitVec.ofInt 64 4294967295).toNat:Int)).toNat:Int))).toNat:Int)+((AL (Int.fdiv ((AL (((AL ((BitVec.ofInt 64 (a0.toNat:Int) &&& BitVec.ofInt 64 4294967295).toNat:Int)).toNat:Int)*((AL ((BitVec.ofInt 64 (a1.toNat:Int) &&& BitVec.ofInt 64 4294967295).toNat:Int)).toNat:Int))).toNat:Int) (2^(min (Int.toNat 32) 64)))).toNat:Int))).toNat:Int) &&& BitVec.ofInt 64 4294967295).toNat:Int)).toNat:Int)+((AL (((AL ((BitVec.ofInt 64 (a0.toNat:Int) &&& BitVec.ofInt 64 4294967295).toNat:Int)).toNat:Int)*((AL (Int.fdiv (a1.toNat:Int) (2^(min (Int.toNat 32) 64)))).toNat:Int))).toNat:Int))) _,?_⟩;refine⟨_,Aw _,?_⟩;refine⟨_,Aw _,?_⟩;cases h;exact⟨rfl,rfl⟩
theorem Jk {a0:UInt64}{a1:UInt64}{r:UInt64×UInt64}(h:EO a0 a1=some r):yC wl 154 [AV.d (D.u64 a0),AV.d (D.u64 a1)] [] (.tup [.d (D.u64 r.1),.d (D.u64 r.2)]) []:=by
 refine oK Tryz.f154 ⟨rfl,?_⟩;unfold EO at h;(conv=>whnf);refine .go ?_;obtain⟨⟨v1,v2⟩,g3,h⟩:=AC h;refine⟨_,_,some [],IL g3,?_⟩;cases h;exact⟨rfl,rfl⟩
theorem KW {a0:List UInt8}{a1:Int}{r:(List UInt8)}(h:D7 a0 a1=some r):yC wl 131 [AV.d (D.l 1 D.u8 a0),AV.d (D.i a1)] [] (AV.own 0 (List.map D.u8 r).length) [.row 5 1 (List.map D.u8 r) .no]:=by
 refine oK Tryz.f131 ⟨rfl,?_⟩;unfold D7 at h;(conv=>whnf);refine .go ?_;refine sJ h ?_ ?_<;>intro h
 ·(conv=>whnf);refine .inl ?_;(conv=>whnf);refine .inr ?_;cases h;exact⟨rfl,rfl⟩
 (conv=>whnf);refine .go ?_;refine sJ h ?_ ?_<;>intro h
 ·exact nomatch h
 refine⟨a0.length,X10 _,?_⟩;refine⟨_,Aw _,?_⟩;refine⟨_,Aw _,?_⟩;obtain⟨⟨v1,v2⟩,g3,h⟩:=AC h;refine⟨_,_,some [],Jk g3,?_⟩;revert h;refine AI (fun v4=>⟨y6 a0::dd 5 (yu v2::dd 25 (yb v4::dd 44 ([]))),nn 77 ([])⟩) ?_ ?_
 ·intro k5 h;exact sJ h (fun h=>AD wk h) fun h=>AD wk h
 rintro v4 h;(conv=>whnf);refine .go ?_;refine sJ h ?_ ?_<;>intro h
 ·exact nomatch h
 refine⟨_,rfl,?_⟩;refine⟨a0.length,X10 _,?_⟩;(conv=>whnf);refine .go ?_;refine sJ h ?_ ?_<;>intro h
 ·(conv=>whnf);refine .inl ?_;(conv=>whnf);refine .inr ?_;cases h;exact⟨rfl,rfl⟩
 revert h;refine AI (fun v6=>⟨y6 a0::dd 6 (yi (AT (v2.toNat:Int))::yi v6::dd 68 ([])),nn 77 ([])⟩) ?_ ?_
 ·intro k7 h;refine sJ h (fun h=>?_) fun h=>AD wk h;refine⟨a0.length,X10 _,?_⟩;obtain⟨_,g8,h⟩:=AC h;refine⟨Dz g8,_,rfl,?_⟩;refine⟨a0.length,X10 _,?_⟩;refine⟨_,rfl,?_⟩;revert h;refine AI (fun v9=>⟨y6 a0::dd 6 (yi (AT (v2.toNat:Int))::yi v9::dd 68 ([])),nn 77 ([])⟩) ?_ ?_
  ·intro k10 h;refine sJ h (fun h=>?_) fun h=>AD wk h;refine⟨a0.length,X10 _,?_⟩;exact AD wk h
  rintro v9 h;exact AD wk h
 rintro v6 h;(conv=>whnf);have g11:=QZ h;refine .go (Wu (fn:=Tryz.f155) (ps:=#[3]) (t:=44) (e:=5) Tryz.func155 (by kernel_rfl) (by kernel_rfl) (by kernel_rfl) (by kernel_rfl) Tryz.underlying44 g11.1 (r:=54) rfl (by decide) fun v12 hv11=>?_);replace h:=g11.2 v12 hv11;obtain⟨_,g13,h⟩:=AC h;obtain⟨v14,g15,h⟩:=AC h;refine⟨Vb (f:=D.u8) g15 g13,rfl,_,Ek (f:=D.u8) g15,?_⟩;refine⟨rfl,List.map D.u8 (cpy v14 0 v14.length a0),Wg,(min a0.length v14.length),V9,?_⟩;revert h;refine AI (fun v16=>⟨dd 9 (yO 57 D.u8 v16::dd 67 ([])),nn 57 (yR 5 1 D.u8 v16::nn 19 ([]))⟩) ?_ ?_
 ·intro k17 h;revert h;refine E5 (fun (v18,v19)=>⟨dd 7 (yi (AT (v2.toNat:Int))::yi v6::yO 57 D.u8 v19::yi v18::dd 66 ([])),nn 57 (yR 5 1 D.u8 v19::nn 19 ([]))⟩) ?_ ?_
  ·exact wk
  rintro next20 ⟨v18,v19⟩ K21 h hK22;(conv=>whnf);refine .go ?_;refine sJ h (fun h=>?_) fun h=>AD wk h;(conv=>whnf);refine .go ?_;refine⟨_,rfl,?_⟩;(conv=>whnf);refine .inl (dO ?_);(conv=>whnf);refine .inr (.inl ?_);obtain⟨_,g23,h⟩:=AC h;have g23c:=Dz g23;refine⟨OY (f:=D.u8) g23,rfl,(Int.toNat v18),(Int.toNat (v19.length:Int)-Int.toNat v18),rfl,(by rw[X10]),?_⟩;(conv=>whnf);refine .inr (.inl ?_);obtain⟨_,g24,h⟩:=AC h;have g25c:=Dz g24;refine⟨RD (f:=D.u8) g24,rfl,(Int.toNat 0),(Int.toNat (if v6<v18 then v6 else v18)-Int.toNat 0),rfl,rfl,?_⟩;refine⟨(by first | rfl | (simp only[X10,X21];omega)|(simp only[cpy,X10,X21,X11,X18,X17,X20];omega)),List.map D.u8 (List.take (Int.toNat (if v6<v18 then v6 else v18)-Int.toNat 0) (List.drop (Int.toNat 0) v19)),O8,?_⟩;refine⟨(by first | rfl | (simp only[X10,X21];omega)|(simp only[cpy,X10,X21,X11,X18,X17,X20];omega)),List.map D.u8 (cpy v19 (Int.toNat v18) (Int.toNat (v19.length:Int)-Int.toNat v18) (List.take (Int.toNat (if v6<v18 then v6 else v18)-Int.toNat 0) (List.drop (Int.toNat 0) v19))),XJ,(min (List.take (Int.toNat (if v6<v18 then v6 else v18)-Int.toNat 0) (List.drop (Int.toNat 0) v19)).length (Int.toNat (v19.length:Int)-Int.toNat v18)),XO,?_⟩;refine⟨_,rfl,?_⟩;(conv=>whnf);refine cO ?_;exact hK22 _ _ wk h
 rintro v16 h;(conv=>whnf);refine .inl ?_;(conv=>whnf);refine .inr ?_;cases h;exact⟨rfl,rfl⟩
theorem GA {r:(List UInt8)}(h:Bf=some r):yC wl 84 [] [] (AV.own 0 (List.map D.u8 r).length) [.row 5 1 (List.map D.u8 r) .no]:=by
 refine oK Tryz.f84 ⟨rfl,?_⟩;unfold Bf at h;refine⟨rfl,?_⟩;obtain⟨v1,g2,h⟩:=AC h;refine⟨_,_,some [2],KW g2,?_⟩;(conv=>whnf);refine .inl ?_;(conv=>whnf);refine .inr ?_;cases h;exact⟨rfl,rfl⟩
theorem Gy {a0:Int}{r:Bool}(h:DO a0=some r):yC wl 85 [AV.d (D.i a0)] [] (.d (D.b r)) []:=by
 refine oK Tryz.f85 ⟨rfl,?_⟩;unfold DO at h;revert h;refine AI (fun v1=>⟨X::X::yb v1::dd 6 ([]),nn 9 ([])⟩) ?_ ?_
 ·intro k2 h;exact sJ h (fun h=>AD wk h) fun h=>AD wk h
 rintro v1 h;cases h;exact⟨rfl,rfl⟩
theorem MK {a0:List UInt8}{r:(List UInt8)}(h:EX a0=some r):yC wl 86 [AV.d (D.l 1 D.u8 a0)] [] (.d (D.l 1 D.u8 r)) []:=by
 refine oK Tryz.f86 ⟨rfl,?_⟩;unfold EX at h;refine⟨?_,fun hz=>?_⟩
 ·(conv=>whnf);refine .go ?_;obtain⟨v1,g2,h⟩:=AC h;refine⟨rfl,Am (f:=D.u8) (g:=D.u8) g2,_,Ap (f:=D.u8) g2,?_⟩;(conv=>whnf);refine .inl ?_;(conv=>whnf);refine .inl ?_;refine⟨rfl,?_⟩;cases h;exact⟨rfl,rfl⟩
 obtain rfl:a0=[]:=(by simpa using hz);replace h:=Ph h;(conv=>whnf);refine .go ?_;(conv=>whnf);refine .inl ?_;cases h;exact⟨rfl,rfl⟩
theorem CW {a0:List UInt8}{r:Ya×Int×Int}(h:Be a0=some r):yC wl 39 [AV.d (D.l 1 D.u8 a0)] [] (.tup [.d (Ya.toD r.1),.d (D.i r.2.1),.d (D.i r.2.2)]) []:=by
 refine oK Tryz.f39 ⟨rfl,?_⟩;unfold Be at h;(conv=>whnf);refine .inl (dO ?_);obtain⟨v1,g2,h⟩:=AC h;refine⟨_,_,GA g2,.inr rfl,?_⟩;refine⟨a0.length,X10 _,?_⟩;refine⟨_,rfl,?_⟩;obtain⟨v3,g4,h⟩:=AC h;refine⟨Eh (f:=D.u8) g4,_,Ek (f:=D.u8) g4,?_⟩;refine⟨rfl,?_⟩;obtain⟨v5,g6,h⟩:=AC h;refine⟨_,_,IP g6,.inl rfl,?_⟩;(conv=>whnf);refine cO ?_;(conv=>whnf);refine .go ?_;refine sJ h ?_ ?_<;>intro h
 ·cases h;exact⟨rfl,rfl⟩
 refine⟨a0.length,X10 _,?_⟩;(conv=>whnf);refine .go ?_;refine sJ h ?_ ?_<;>intro h
 ·cases h;exact⟨rfl,rfl⟩
 (conv=>whnf);refine .inl (dO ?_);obtain⟨v7,g8,h⟩:=AC h;refine⟨Rf (f:=D.u8) g8,_,Ro (f:=D.u8) g8,?_⟩;obtain⟨v9,g10,h⟩:=AC h;refine⟨_,_,NE g10,.inl rfl,?_⟩;obtain⟨v11,g12,h⟩:=AC h;refine⟨CJ (f:=D.u8) g12,D.u8 v11,CM (f:=D.u8) g12,rfl,?_⟩;refine⟨_,Ez v11,?_⟩;(conv=>whnf);refine cO ?_;(conv=>whnf);refine .go ?_;revert h;refine AI (fun v13=>⟨y6 a0::X::yr 2 0::X::X::yi v9::yi (v11.toNat:Int)::dd 20 (yb v13::dd 25 ([])),N::N::yB Ya.zv::nn 50 ([])⟩) ?_ ?_
 ·intro k14 h;refine sJ h (fun h=>AD wk h) fun h=>?_;refine sJ h (fun h=>AD wk h) fun h=>?_;obtain⟨v15,g16,h⟩:=AC h;refine⟨_,_,some [],Gy g16,?_⟩;exact AD wk h
 rintro v13 h;(conv=>whnf);refine .go ?_;refine sJ h ?_ ?_<;>intro h
 ·cases h;exact⟨rfl,rfl⟩
 refine⟨a0.length,X10 _,?_⟩;(conv=>whnf);refine .go ?_;refine sJ h ?_ ?_<;>intro h
 ·cases h;exact⟨rfl,rfl⟩
 obtain⟨v17,g18,h⟩:=AC h;refine⟨Eh (f:=D.u8) g18,_,Ek (f:=D.u8) g18,?_⟩;obtain⟨v19,g20,h⟩:=AC h;refine⟨_,_,some [],MK g20,?_⟩;cases h;exact⟨rfl,rfl⟩
theorem law19_UpdateStream_ok {a0:List (List UInt8)}{a1:Int}{a2:Int}{r:Bool}(h:BN a0 a1 a2=some r):yC wl 9 [AV.d (D.l 1 (D.l 1 D.u8) a0),AV.d (D.i a1),AV.d (D.i a2)] [] (.d (D.b r)) []:=by
 refine oK Tryz.f9 ⟨rfl,?_⟩;unfold BN at h;refine⟨a0.length,X10 _,?_⟩;(conv=>whnf);refine .go ?_;refine sJ h ?_ ?_<;>intro h
 ·obtain⟨v1,g2,h⟩:=AC h;refine⟨_,_,some [],Bl g2,?_⟩;cases h;exact⟨rfl,rfl⟩
 refine⟨a0.length,X10 _,?_⟩;revert h;refine AI (fun v3=>⟨AV.d (D.l 1 (D.l 1 D.u8) a0)::X::yi a2::dd 4 (yO 7 D.u8 v3::dd 114 ([])),nn 7 (yR 5 1 D.u8 v3::nn 114 ([]))⟩) ?_ ?_
 ·intro k4 h;revert h;refine A8 28 1 (D.l 1 D.u8) rfl (fun i5 v6=>⟨AV.d (D.l 1 (D.l 1 D.u8) a0)::yi a1::yi a2::dd 4 (yO 7 D.u8 v6::dd 20 (AV.d (D.l 1 (D.l 1 D.u8) a0)::yi (a0.length:Int)::yi (i5:Int)::dd 91 ([]))),nn 7 (yR 5 1 D.u8 v6::nn 114 ([]))⟩) ?_ ?_ ?_
  ·exact wk
  ·rintro v6 K7 h;(conv=>whnf);refine .go ?_;(conv=>whnf);refine DV Fg ?_;exact AD wk h
  rintro next8 i5 x9 v6 K7 hii5 hxi5 hwi5 h hK10;(conv=>whnf);refine .go ?_;(conv=>whnf);refine Cf (FD hii5) ?_;(conv=>whnf);refine .go ?_;refine⟨C5 (f:=(D.l 1 D.u8)) hii5,(D.l 1 D.u8) x9,hxi5,rfl,?_⟩;obtain⟨v11,g12,h⟩:=AC h;refine⟨_,_,some [],EM g12,?_⟩;(conv=>whnf);refine .go ?_;refine sJ h ?_ ?_<;>intro h
  ·obtain⟨v13,g14,h⟩:=AC h;refine⟨_,_,some [],Bl g14,?_⟩;cases h;exact⟨rfl,rfl⟩
  obtain⟨v15,g16,h⟩:=AC h;refine⟨_,_,some [],A5 g16,?_⟩;refine⟨_,rfl,?_⟩;obtain⟨⟨v17,v18⟩,g19,h⟩:=AC h;refine⟨_,_,some [],D5 g19,?_⟩;obtain⟨v20,g21,h⟩:=AC h;refine⟨rfl,Am (f:=D.u8) (g:=D.u8) g21,_,Ap (f:=D.u8) g21,?_⟩;refine⟨_,hwi5,?_⟩;exact hK10 _ _ wk h
 rintro v3 h;refine⟨v3.length,by first | exact X10 _ | rfl | (simp only[X10];omega),?_⟩;obtain⟨v22,g23,h⟩:=AC h;refine⟨_,_,some [],A5 g23,?_⟩;obtain⟨⟨v24,v25⟩,g26,h⟩:=AC h;refine⟨_,_,some [],D5 g26,?_⟩;obtain⟨v27,g28,h⟩:=AC h;refine⟨Eh (f:=D.u8) g28,_,Ek (f:=D.u8) g28,?_⟩;obtain⟨v29,g30,h⟩:=AC h;refine⟨rfl,Am (f:=D.u8) (g:=D.u8) g30,_,Ap (f:=D.u8) g30,?_⟩;refine⟨a0.length,X10 _,?_⟩;revert h;refine AI (fun (v31,v32)=>⟨dd 7 (y6 v31::dd 4 (yi v32::dd 109 ([]))),nn 122 ([])⟩) ?_ ?_
 ·intro k33 h;revert h;refine A8 65 1 (D.l 1 D.u8) rfl (fun i34 (v35,v36)=>⟨dd 7 (y6 v35::dd 4 (yi v36::dd 52 (AV.d (D.l 1 (D.l 1 D.u8) a0)::yi (a0.length:Int)::yi (i34:Int)::dd 54 ([])))),nn 122 ([])⟩) ?_ ?_ ?_
  ·exact wk
  ·rintro⟨v35,v36⟩ K37 h;(conv=>whnf);refine .go ?_;(conv=>whnf);refine DV Fg ?_;exact AD wk h
  rintro next38 i34 x39 ⟨v35,v36⟩ K37 hii34 hxi34 hwi34 h hK40;(conv=>whnf);refine .go ?_;(conv=>whnf);refine Cf (FD hii34) ?_;(conv=>whnf);refine .go ?_;refine⟨C5 (f:=(D.l 1 D.u8)) hii34,(D.l 1 D.u8) x39,hxi34,rfl,?_⟩;obtain⟨⟨v41,v42,v43⟩,g44,h⟩:=AC h;refine⟨_,_,some [],CW g44,?_⟩;revert h;refine AI (fun v45=>⟨dd 7 (y6 v35::dd 4 (yi v36::dd 6 (yi v42::dd 45 (AV.d (D.l 1 (D.l 1 D.u8) a0)::yi (a0.length:Int)::yi (i34:Int)::dd 31 (yb v45::dd 22 ([])))))),nn 122 ([])⟩) ?_ ?_
  ·intro k46 h;refine sJ h (fun h=>AD wk h) fun h=>?_;refine⟨v41.Body,rfl,?_⟩;refine⟨x39,rfl,?_⟩;refine sJ h (fun h=>AD wk h) fun h=>?_;refine⟨x39.length,X10 _,?_⟩;refine⟨_,rfl,?_⟩;refine sJ h (fun h=>AD wk h) fun h=>?_;refine⟨v35.length,X10 _,?_⟩;exact AD wk h
  rintro v45 h;(conv=>whnf);refine .go ?_;refine sJ h ?_ ?_<;>intro h
  ·cases h;exact⟨rfl,rfl⟩
  obtain⟨v47,g48,h⟩:=AC h;refine⟨Rf (f:=D.u8) g48,_,Ro (f:=D.u8) g48,?_⟩;refine⟨_,rfl,?_⟩;refine⟨_,hwi34,?_⟩;exact hK40 _ _ wk h
 rintro⟨v31,v32⟩ h;obtain⟨⟨v49,v50,v51⟩,g52,h⟩:=AC h;refine⟨_,_,some [],CW g52,?_⟩;revert h;refine AI (fun v53=>⟨dd 6 (yb v53::dd 115 ([])),nn 122 ([])⟩) ?_ ?_
 ·intro k54 h;refine sJ h (fun h=>?_) fun h=>AD wk h;refine sJ h (fun h=>?_) fun h=>AD wk h;obtain⟨v55,g56,h⟩:=AC h;refine⟨_,_,some [],Bl g56,?_⟩;exact AD wk h
 rintro v53 h;cases h;exact⟨rfl,rfl⟩
theorem Gx {a0:Ya}{r:(List UInt8)×Int}(h:DK a0=some r):yC wl 40 [AV.d (Ya.toD a0)] [] (.tup [.d (D.l 1 D.u8 r.1),.d (D.i r.2)]) []:=by
 refine oK Tryz.f40 ⟨rfl,?_⟩;unfold DK at h;(conv=>whnf);refine .go ?_;obtain⟨v1,g2,h⟩:=AC h;refine⟨_,_,some [],Gy g2,?_⟩;(conv=>whnf);refine .go ?_;refine sJ h ?_ ?_<;>intro h
 ·cases h;exact⟨rfl,rfl⟩
 refine⟨a0.Body.length,X10 _,?_⟩;(conv=>whnf);refine .go ?_;refine sJ h ?_ ?_<;>intro h
 ·cases h;exact⟨rfl,rfl⟩
 (conv=>whnf);refine .inl (dO ?_);obtain⟨v3,g4,h⟩:=AC h;refine⟨_,_,GA g4,.inr rfl,?_⟩;refine⟨a0.Body.length,X10 _,?_⟩;refine⟨_,rfl,?_⟩;obtain⟨v5,g6,h⟩:=AC h;refine⟨_,_,IF g6,.inl rfl,?_⟩;refine⟨_,Ak _,?_⟩;refine⟨rfl,?_⟩;obtain⟨v7,g8,h⟩:=AC h;refine⟨rfl,Am (f:=D.u8) (g:=D.u8) g8,_,Ap (f:=D.u8) g8,?_⟩;obtain⟨v9,g10,h⟩:=AC h;refine⟨rfl,Am (f:=D.u8) (g:=D.u8) g10,_,Ap (f:=D.u8) g10,?_⟩;(conv=>whnf);refine cO ?_;(conv=>whnf);refine .inl ?_;refine⟨rfl,?_⟩;cases h;exact⟨rfl,rfl⟩
theorem LE {a0:List UInt8}{r:Ya×Int×Int}(h:EY a0=some r):yC wl 41 [AV.d (D.l 1 D.u8 a0)] [] (.tup [.d (Ya.toD r.1),.d (D.i r.2.1),.d (D.i r.2.2)]) []:=by
 refine oK Tryz.f41 ⟨rfl,?_⟩;unfold EY at h;refine⟨a0.length,X10 _,?_⟩;revert h;refine AI (fun _=>⟨y6 a0::X::yr 2 0::dd 68 ([]),N::N::yB Ya.zv::nn 68 ([])⟩) ?_ ?_
 ·intro k1 h;revert h;refine A8 8 1 D.u8 rfl (fun i2 _=>⟨y6 a0::X::yr 2 0::dd 5 (y6 a0::yi (a0.length:Int)::yi (i2:Int)::dd 60 ([])),N::N::yB Ya.zv::nn 68 ([])⟩) ?_ ?_ ?_
  ·exact wk
  ·rintro _ K3 h;(conv=>whnf);refine .go ?_;(conv=>whnf);refine DV Fg ?_;exact AD wk h
  rintro next4 i2 x5 _ K3 hii2 hxi2 hwi2 h hK6;(conv=>whnf);refine .go ?_;(conv=>whnf);refine Cf (FD hii2) ?_;(conv=>whnf);refine .go ?_;refine⟨C5 (f:=D.u8) hii2,D.u8 x5,hxi2,rfl,?_⟩;revert h;refine AI (fun v7=>⟨y6 a0::X::yr 2 0::dd 5 (y6 a0::yi (a0.length:Int)::yi (i2:Int)::dd 9 (yb v7::dd 50 ([]))),N::N::yB Ya.zv::nn 68 ([])⟩) ?_ ?_
  ·intro k8 h;exact sJ h (fun h=>AD wk h) fun h=>AD wk h
  rintro v7 h;(conv=>whnf);refine .go ?_;refine sJ h ?_ ?_<;>intro h
  ·cases h;exact⟨rfl,rfl⟩
  refine⟨_,hwi2,?_⟩;exact hK6 _ _ wk h
 rintro _ h;refine⟨a0.length,X10 _,?_⟩;(conv=>whnf);refine .go ?_;refine sJ h ?_ ?_<;>intro h
 ·cases h;exact⟨rfl,rfl⟩
 (conv=>whnf);refine .inl (dO ?_);obtain⟨v9,g10,h⟩:=AC h;refine⟨CJ (f:=D.u8) g10,D.u8 v9,CM (f:=D.u8) g10,rfl,?_⟩;refine⟨_,Ez v9,?_⟩;refine⟨by decide,_,rfl,?_⟩;obtain⟨v11,g12,h⟩:=AC h;refine⟨CJ (f:=D.u8) g12,D.u8 v11,CM (f:=D.u8) g12,rfl,?_⟩;refine⟨_,Ez v11,?_⟩;refine⟨_,rfl,?_⟩;(conv=>whnf);refine cO ?_;revert h;refine AI (fun v13=>⟨y6 a0::X::yr 2 0::dd 4 (AV.d (D.i (AT ((BitVec.ofInt 64 (AT ((v9.toNat:Int)*(2^(min (Int.toNat 8) 64)))) ||| BitVec.ofInt 64 (v11.toNat:Int)).toNat:Int)))::dd 46 (yb v13::dd 16 ([]))),N::N::yB Ya.zv::nn 68 ([])⟩) ?_ ?_
 ·intro k14 h;refine sJ h (fun h=>AD wk h) fun h=>?_;refine sJ h (fun h=>AD wk h) fun h=>?_;obtain⟨v15,g16,h⟩:=AC h;refine⟨CJ (f:=D.u8) g16,D.u8 v15,CM (f:=D.u8) g16,rfl,?_⟩;refine sJ h (fun h=>AD wk h) fun h=>?_;obtain⟨v17,g18,h⟩:=AC h;refine⟨CJ (f:=D.u8) g18,D.u8 v17,CM (f:=D.u8) g18,rfl,?_⟩;exact AD wk h
 rintro v13 h;(conv=>whnf);refine .go ?_;refine sJ h ?_ ?_<;>intro h
 ·cases h;exact⟨rfl,rfl⟩
 refine⟨a0.length,X10 _,?_⟩;(conv=>whnf);refine .go ?_;refine sJ h ?_ ?_<;>intro h
 ·cases h;exact⟨rfl,rfl⟩
 (conv=>whnf);refine .inl (dO ?_);obtain⟨v19,g20,h⟩:=AC h;refine⟨CJ (f:=D.u8) g20,D.u8 v19,CM (f:=D.u8) g20,rfl,?_⟩;refine⟨_,Ez v19,?_⟩;obtain⟨v21,g22,h⟩:=AC h;refine⟨Eh (f:=D.u8) g22,_,Ek (f:=D.u8) g22,?_⟩;obtain⟨_,g23,h⟩:=AC h;refine⟨Gh (g:=D.u8) g23,?_⟩;(conv=>whnf);refine cO ?_;refine⟨rfl,?_⟩;cases h;exact⟨rfl,rfl⟩
theorem law19_UpdateFrames_ok {a0:Ya}{a1:List UInt8}{a2:Int}{a3:Int}{a4:Int}{r:Bool}(h:BO a0 a1 a2 a3 a4=some r):yC wl 10 [AV.d (Ya.toD a0),AV.d (D.l 1 D.u8 a1),AV.d (D.i a2),AV.d (D.i a3),AV.d (D.i a4)] [] (.d (D.b r)) []:=by
 refine oK Tryz.f10 ⟨rfl,?_⟩;unfold BO at h;revert h;refine AI (fun v1=>⟨X::y6 a1::yi a2::yi a3::yi a4::yr 5 0::dd 31 (yb v1::dd 117 ([])),nn 5 (yB (Ya.av a0)::nn 149 ([]))⟩) ?_ ?_
 ·intro k2 h;obtain⟨v3,g4,h⟩:=AC h;refine⟨_,_,some [],EM g4,?_⟩;refine sJ h (fun h=>AD wk h) fun h=>?_;obtain⟨v5,g6,h⟩:=AC h;refine⟨_,_,some [],EM g6,?_⟩;exact AD wk h
 rintro v1 h;(conv=>whnf);refine .go ?_;refine sJ h ?_ ?_<;>intro h
 ·obtain⟨v7,g8,h⟩:=AC h;refine⟨_,_,some [],Bl g8,?_⟩;cases h;exact⟨rfl,rfl⟩
 obtain⟨v9,g10,h⟩:=AC h;refine⟨_,_,some [],A5 g10,?_⟩;obtain⟨v11,g12,h⟩:=AC h;refine⟨_,_,some [],A5 g12,?_⟩;refine⟨_,rfl,?_⟩;obtain⟨_,g13,h⟩:=AC h;refine⟨Qg g13 (X29 rfl),D.u8 (0:UInt8),rfl,(List.map D.u8 (List.replicate (Int.toNat (AT (4076+v11))) (0:UInt8))),List.map_replicate.symm,?_⟩;refine⟨rfl,?_⟩;refine⟨([a0,(⟨v9,a1⟩:Ya),(⟨2,(List.replicate (Int.toNat (AT (4076+v11))) (0:UInt8))⟩:Ya)]:List Ya).length,by first | exact X10 _ | rfl | (simp only[X10];omega),?_⟩;revert h;refine AI (fun _=>⟨X::y6 a1::yi a2::yi a3::yi a4::dd 150 ([]),nn 155 ([])⟩) ?_ ?_
 ·intro k14 h;revert h;refine PG 51 72 2 .no Ya.toD rfl (fun i15 _=>⟨X::y6 a1::yi a2::yi a3::yi a4::dd 46 (AV.own 51 (List.map Ya.toD ([a0,(⟨v9,a1⟩:Ya),(⟨2,(List.replicate (Int.toNat (AT (4076+v11))) (0:UInt8))⟩:Ya)]:List Ya)).length::AV.d (D.i (([a0,(⟨v9,a1⟩:Ya),(⟨2,(List.replicate (Int.toNat (AT (4076+v11))) (0:UInt8))⟩:Ya)]:List Ya).length:Int))::yi (i15:Int)::dd 101 ([])),nn 51 (some (OB.row 72 2 (List.map Ya.toD ([a0,(⟨v9,a1⟩:Ya),(⟨2,(List.replicate (Int.toNat (AT (4076+v11))) (0:UInt8))⟩:Ya)]:List Ya)) .no)::nn 103 ([]))⟩) ?_ ?_ ?_
  ·exact wk
  ·rintro _ K16 h;(conv=>whnf);refine .go ?_;exact AD wk h
  rintro next17 i15 x18 _ K16 hii15 hxi15 hwi15 h hK19;(conv=>whnf);refine .go ?_;(conv=>whnf);refine Cf (FD hii15) ?_;(conv=>whnf);refine .go ?_;refine⟨rfl,C5 (f:=Ya.toD) hii15,?_⟩;refine⟨rfl,Ya.toD x18,hxi15,?_⟩;obtain⟨⟨v20,v21⟩,g22,h⟩:=AC h;refine⟨_,_,some [],Gx g22,?_⟩;obtain⟨⟨v23,v24⟩,g25,h⟩:=AC h;refine⟨_,_,some [],D5 g25,?_⟩;revert h;refine AI (fun v26=>⟨X::y6 a1::yi a2::yi a3::yi a4::dd 46 (AV.own 51 (List.map Ya.toD ([a0,(⟨v9,a1⟩:Ya),(⟨2,(List.replicate (Int.toNat (AT (4076+v11))) (0:UInt8))⟩:Ya)]:List Ya)).length::AV.d (D.i (([a0,(⟨v9,a1⟩:Ya),(⟨2,(List.replicate (Int.toNat (AT (4076+v11))) (0:UInt8))⟩:Ya)]:List Ya).length:Int))::yi (i15:Int)::dd 22 (yb v26::dd 78 ([]))),nn 51 (some (OB.row 72 2 (List.map Ya.toD ([a0,(⟨v9,a1⟩:Ya),(⟨2,(List.replicate (Int.toNat (AT (4076+v11))) (0:UInt8))⟩:Ya)]:List Ya)) .no)::nn 103 ([]))⟩) ?_ ?_
  ·intro k27 h;refine⟨v20,rfl,?_⟩;refine⟨v23,rfl,?_⟩;exact sJ h (fun h=>AD wk h) fun h=>AD wk h
  rintro v26 h;(conv=>whnf);refine .go ?_;refine sJ h ?_ ?_<;>intro h
  ·cases h;exact⟨rfl,rfl⟩
  refine⟨_,hwi15,?_⟩;exact hK19 _ _ wk h
 rintro _ h;obtain⟨v28,g29,h⟩:=AC h;refine⟨_,_,some [],A5 g29,?_⟩;refine⟨_,rfl,?_⟩;obtain⟨⟨v30,v31⟩,g32,h⟩:=AC h;refine⟨_,_,some [],D5 g32,?_⟩;(conv=>whnf);refine .inl (dO ?_);obtain⟨v33,g34,h⟩:=AC h;refine⟨_,_,HT g34,.inl rfl,?_⟩;obtain⟨v35,g36,h⟩:=AC h;refine⟨_,_,A5 g36,.inl rfl,?_⟩;refine⟨_,rfl,?_⟩;obtain⟨v37,g38,h⟩:=AC h;refine⟨_,_,A5 g38,.inl rfl,?_⟩;obtain⟨v39,g40,h⟩:=AC h;refine⟨_,_,HT g40,.inl rfl,?_⟩;refine⟨v30.length,X10 _,?_⟩;refine⟨_,rfl,?_⟩;obtain⟨v41,g42,h⟩:=AC h;refine⟨_,_,A5 g42,.inl rfl,?_⟩;obtain⟨v43,g44,h⟩:=AC h;refine⟨Eh (f:=D.u8) g44,_,Ek (f:=D.u8) g44,?_⟩;obtain⟨_,g45,h⟩:=AC h;refine⟨Gh (g:=D.u8) g45,?_⟩;obtain⟨v46,g47,h⟩:=AC h;refine⟨rfl,Am (f:=D.u8) (g:=D.u8) g47,_,Ap (f:=D.u8) g47,?_⟩;refine⟨rfl,?_⟩;refine⟨([a1,v30,v33,v39,v43,v46]:List (List UInt8)).length,by first | exact X10 _ | rfl | (simp only[X10];omega),?_⟩;(conv=>whnf);refine cO ?_;revert h;refine AI (fun _=>⟨dd 155 ([]),nn 155 ([])⟩) ?_ ?_
 ·intro k48 h;revert h;refine PG 111 44 1 .no (D.l 1 D.u8) rfl (fun i49 _=>⟨dd 111 (AV.own 111 (List.map (D.l 1 D.u8) ([a1,v30,v33,v39,v43,v46]:List (List UInt8))).length::yi (([a1,v30,v33,v39,v43,v46]:List (List UInt8)).length:Int)::yi (i49:Int)::dd 41 ([])),nn 111 (some (OB.row 44 1 (List.map (D.l 1 D.u8) ([a1,v30,v33,v39,v43,v46]:List (List UInt8))) .no)::nn 43 ([]))⟩) ?_ ?_ ?_
  ·exact wk
  ·rintro _ K50 h;(conv=>whnf);refine .go ?_;exact AD wk h
  rintro next51 i49 x52 _ K50 hii49 hxi49 hwi49 h hK53;(conv=>whnf);refine .go ?_;(conv=>whnf);refine Cf (FD hii49) ?_;(conv=>whnf);refine .go ?_;refine⟨rfl,C5 (f:=(D.l 1 D.u8)) hii49,?_⟩;refine⟨rfl,(D.l 1 D.u8) x52,hxi49,?_⟩;obtain⟨⟨v54,v55,v56⟩,g57,h⟩:=AC h;refine⟨_,_,some [],CW g57,?_⟩;obtain⟨⟨v58,v59,v60⟩,g61,h⟩:=AC h;refine⟨_,_,some [],LE g61,?_⟩;revert h;refine AI (fun v62=>⟨dd 111 (AV.own 111 (List.map (D.l 1 D.u8) ([a1,v30,v33,v39,v43,v46]:List (List UInt8))).length::yi (([a1,v30,v33,v39,v43,v46]:List (List UInt8)).length:Int)::yi (i49:Int)::dd 38 (yb v62::X::X::[])),nn 111 (some (OB.row 44 1 (List.map (D.l 1 D.u8) ([a1,v30,v33,v39,v43,v46]:List (List UInt8))) .no)::nn 43 ([]))⟩) ?_ ?_
  ·intro k63 h;refine sJ h (fun h=>AD wk h) fun h=>?_;refine⟨v54.Body,rfl,?_⟩;refine⟨v58.Body,rfl,?_⟩;refine sJ h (fun h=>AD wk h) fun h=>?_;exact sJ h (fun h=>AD wk h) fun h=>AD wk h
  rintro v62 h;(conv=>whnf);refine .go ?_;refine sJ h ?_ ?_<;>intro h
  ·cases h;exact⟨rfl,rfl⟩
  refine⟨_,hwi49,?_⟩;exact hK53 _ _ wk h
 rintro _ h;obtain⟨v64,g65,h⟩:=AC h;refine⟨_,_,some [],Bl g65,?_⟩;cases h;exact⟨rfl,rfl⟩
theorem law19_UpdateCut_ok {a0:List UInt8}{a1:Int}{a2:Int}{a3:Int}{a4:Int}{r:Bool}(h:B2 a0 a1 a2 a3 a4=some r):yC wl 11 [AV.d (D.l 1 D.u8 a0),AV.d (D.i a1),AV.d (D.i a2),AV.d (D.i a3),AV.d (D.i a4)] [] (.d (D.b r)) []:=by
 refine oK Tryz.f11 ⟨rfl,?_⟩;unfold B2 at h;obtain⟨v1,g2,h⟩:=AC h;refine⟨_,_,some [],EM g2,?_⟩;(conv=>whnf);refine .go ?_;refine sJ h ?_ ?_<;>intro h
 ·obtain⟨v3,g4,h⟩:=AC h;refine⟨_,_,some [],Bl g4,?_⟩;cases h;exact⟨rfl,rfl⟩
 obtain⟨v5,g6,h⟩:=AC h;refine⟨_,_,some [],A5 g6,?_⟩;refine⟨_,rfl,?_⟩;obtain⟨⟨v7,v8⟩,g9,h⟩:=AC h;refine⟨_,_,some [],Gx g9,?_⟩;revert h;refine AI (fun v10=>⟨X::X::yi a2::yi a3::yi a4::dd 6 (y6 v7::dd 30 (yb v10::dd 43 ([]))),nn 86 ([])⟩) ?_ ?_
 ·intro k11 h;refine sJ h (fun h=>AD wk h) fun h=>?_;refine⟨v7.length,X10 _,?_⟩;refine⟨a0.length,X10 _,?_⟩;refine⟨_,rfl,?_⟩;exact AD wk h
 rintro v10 h;(conv=>whnf);refine .go ?_;refine sJ h ?_ ?_<;>intro h
 ·cases h;exact⟨rfl,rfl⟩
 refine⟨v7.length,X10 _,?_⟩;obtain⟨v12,g13,h⟩:=AC h;refine⟨_,_,some [],A5 g13,?_⟩;obtain⟨v14,g15,h⟩:=AC h;refine⟨Eh (f:=D.u8) g15,_,Ek (f:=D.u8) g15,?_⟩;obtain⟨⟨v16,v17,v18⟩,g19,h⟩:=AC h;refine⟨_,_,some [],CW g19,?_⟩;obtain⟨_,g20,h⟩:=AC h;refine⟨Gh (g:=D.u8) g20,?_⟩;obtain⟨v21,g22,h⟩:=AC h;refine⟨_,_,some [],A5 g22,?_⟩;obtain⟨v23,g24,h⟩:=AC h;refine⟨_,_,some [],A5 g24,?_⟩;refine⟨_,Ak _,?_⟩;obtain⟨v25,g26,h⟩:=AC h;refine⟨rfl,CJ (f:=D.u8) g26,?_⟩;obtain⟨v27,g28,h⟩:=AC h;have g28l:=LO g28;refine⟨rfl,rfl,D.u8 v25,(CM (f:=D.u8) g26),?_⟩;refine⟨_,Q2 (f:=D.u8) g28,?_⟩;refine⟨(by first | rfl | (simp only[X10];omega)|(simp only[cpy,X10,X21,X11,X18,X17,X20];omega)),?_⟩;obtain⟨⟨v29,v30,v31⟩,g32,h⟩:=AC h;refine⟨_,_,some [],CW g32,?_⟩;revert h;refine AI (fun v33=>⟨dd 10 (yb v33::dd 75 ([])),nn 86 ([])⟩) ?_ ?_
 ·intro k34 h;refine sJ h (fun h=>?_) fun h=>AD wk h;refine sJ h (fun h=>?_) fun h=>AD wk h;refine sJ h (fun h=>?_) fun h=>AD wk h;refine sJ h (fun h=>?_) fun h=>AD wk h;obtain⟨v35,g36,h⟩:=AC h;refine⟨_,_,some [],Bl g36,?_⟩;exact AD wk h
 rintro v33 h;cases h;exact⟨rfl,rfl⟩
end Go.AX.Q19
end
