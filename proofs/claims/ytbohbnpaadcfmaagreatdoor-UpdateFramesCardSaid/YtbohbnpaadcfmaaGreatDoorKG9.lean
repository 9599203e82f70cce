/-
  Texts of one proof, packed.
-/
import Derived.Test.YtbohbnpaadcfmaaGreatDoorKG5
import Derived.Test.YtbohbnpaadcfmaaGreatDoorKG7
import Derived.Test.YtbohbnpaadcfmaaGreatDoorKG8
set_option linter.all false
set_option maxRecDepth 100000
set_option maxHeartbeats 4000000
open List renaming length_map→X10,length_append→X11,length_drop→X17,length_take→X18,length_replicate→X20,length_set→X21
open Nat renaming le_of_ble_eq_true→X29
section
namespace Go.AX.Q19
open Go Go.AX Go.Proofs
variable {wl:Prop}
theorem FD {a0:JAH}{r:(List UInt8)×Int}(h:Dh a0=some r):yC wl 38 [AV.d (JAH.toD a0)] [] (.tup [.d (D.l 1 D.u8 r.1),.d (D.i r.2)]) []:=by
 refine oK Tryz.f38 ⟨rfl,?_⟩;unfold Dh at h;(conv=>whnf);refine .go ?_;revert h;refine AG (fun v1=>⟨X::yr 1 0::dd 4 (yb v1::dd 37 ([])),N::yB (JAH.av a0)::nn 42 ([])⟩) ?_ ?_
 ·intro k2 h;exact sJ h (fun h=>AB wk h) fun h=>AB wk h
 rintro v1 h;(conv=>whnf);refine .go ?_;refine sJ h ?_ ?_<;>intro h
 ·(conv=>whnf);refine .inl ?_;refine⟨rfl,?_⟩;cases h;exact⟨rfl,rfl⟩
 refine⟨a0.Body.length,X10 _,?_⟩;(conv=>whnf);refine .go ?_;refine sJ h ?_ ?_<;>intro h
 ·(conv=>whnf);refine .inl ?_;refine⟨rfl,?_⟩;cases h;exact⟨rfl,rfl⟩
 revert h;refine AG (fun v3=>⟨X::yr 1 0::X::X::yO 4 D.u8 v3::dd 39 ([]),N::yB (JAH.av a0)::N::N::yR 5 1 D.u8 v3::nn 39 ([])⟩) ?_ ?_
 ·intro k4 h;revert h;refine Au (fun (v5,v6)=>⟨X::yr 1 0::X::X::yO 4 D.u8 v6::dd 15 (yi v5::dd 23 ([])),N::yB (JAH.av a0)::N::N::yR 5 1 D.u8 v6::nn 39 ([])⟩) ?_ ?_
  ·exact wk
  rintro next7 ⟨v5,v6⟩ K8 h hK9;(conv=>whnf);refine .go ?_;refine sJ h (fun h=>?_) fun h=>AB wk h;(conv=>whnf);refine .go ?_;refine⟨rfl,?_⟩;obtain⟨v10,g11,h⟩:=AA h;refine⟨rfl,AZ (f:=D.u8) (g:=D.u8) g11,_,Aa (f:=D.u8) g11,?_⟩;refine⟨_,rfl,?_⟩;exact hK9 _ _ wk h
 rintro v3 h;refine⟨a0.Body.length,X10 _,?_⟩;refine⟨_,rfl,?_⟩;(conv=>whnf);refine .inl (dO ?_);refine⟨by decide,_,rfl,?_⟩;refine⟨_,Af _,?_⟩;refine⟨_,Af _,?_⟩;refine⟨_,Af _,?_⟩;refine⟨rfl,?_⟩;obtain⟨v12,g13,h⟩:=AA h;refine⟨rfl,AZ (f:=D.u8) (g:=D.u8) g13,_,Aa (f:=D.u8) g13,?_⟩;obtain⟨v14,g15,h⟩:=AA h;refine⟨rfl,AZ (f:=D.u8) (g:=D.u8) g15,_,Aa (f:=D.u8) g15,?_⟩;(conv=>whnf);refine cO ?_;(conv=>whnf);refine .inl ?_;refine⟨rfl,?_⟩;cases h;exact⟨rfl,rfl⟩
theorem J7 {a0:UInt64}{a1:UInt64}{r:UInt64×UInt64}(h:F9 a0 a1=some r):yC wl 180 [AV.d (D.u64 a0),AV.d (D.u64 a1)] [] (.tup [.d (D.u64 r.1),.d (D.u64 r.2)]) []:=by
 refine oK Tryz.f180 ⟨rfl,?_⟩;unfold F9 at h;refine⟨_,Ae _,?_⟩;refine⟨by decide,_,GQ a0 _,?_⟩;refine⟨_,Ae _,?_⟩;refine⟨by decide,_,GQ a1 _,?_⟩;refine⟨_,Ae _,?_⟩;refine⟨_,Ae _,?_⟩;refine⟨by decide,_,GQ (AN (((AN ((BitVec.ofInt 64 (a0.toNat:Int) &&& BitVec.ofInt 64 4294967295).toNat:Int)).toNat:Int)*((AN ((BitVec.ofInt 64 (a1.toNat:Int) &&& BitVec.ofInt 64 4294967295).toNat:Int)).toNat:Int))) _,?_⟩;refine⟨_,Ae _,?_⟩;refine⟨_,Ae _,?_⟩;refine⟨by decide,_,GQ (AN (((AN (((AN (Int.fdiv (a0.toNat:Int) (2^(min (Int.toNat 32) 64)))).toNat:Int)*((AN ((BitVec.ofInt 64 (a1.toNat:Int) &&& BitVec.ofInt 64 4294967295).toNat:Int)).toNat:Int))).toNat:Int)+((AN (Int.fdiv ((AN (((AN ((BitVec.ofInt 64 (a0.toNat:Int) &&& BitVec.ofInt 64 4294967295).toNat:Int)).toNat:Int)*((AN ((BitVec.ofInt 64 (a1.toNat:Int) &&& BitVec.ofInt 64 4294967295).toNat:Int)).toNat:Int))).toNat:Int) (2^(min (Int.toNat 32) 64)))).toNat:Int))) _,?_⟩;refine⟨_,Ae _,?_⟩;refine⟨_,Ae _,?_⟩;refine⟨_,Ae _,?_⟩;refine⟨_,Ae _,?_⟩;refine⟨by decide,_,GQ (AN (((AN ((BitVec.ofInt 64 ((AN (((AN (((AN (Int.fdiv (a0.toNat:Int) (2^(min (Int.toNat 32) 64)))).toNat:Int)*((AN ((BitVec.ofInt 64 (a1.toNat:Int) &&& BitVec.ofInt 64 4294967295).toNat:Int)).toNat:Int))).toNat:Int)+((AN (Int.fdiv ((AN (((AN ((BitVec.ofInt 64 (a0.toNat:Int) &&& BitVec.ofInt 64 4294967295).toNat:Int)).toNat:Int)*((AN ((BitVec.ofInt 64 (a1.toNat:Int) &&& BitVec.ofInt 64 4294967295).toNat:Int)).toNat:Int))).toNat:Int) (2^(min (Int.toNat 32) 64)))).toNat:Int))).toNat:Int) &&& BitVec.ofInt 64 4294967295).toNat:Int)).toNat:Int)+((AN (((AN ((BitVec.ofInt 64 (a0.toNat:Int) &&& BitVec.ofInt 64 4294967295).toNat:Int)).toNat:Int)*((AN (Int.fdiv (a1.toNat:Int) (2^(min (Int.toNat 32) 64)))).toNat:Int))).toNat:Int))) _,?_⟩;refine⟨_,Ae _,?_⟩;refine⟨_,Ae _,?_⟩;cases h;exact⟨rfl,rfl⟩
theorem Lq {a0:UInt64}{a1:UInt64}{r:UInt64×UInt64}(h:Fe a0 a1=some r):yC wl 154 [AV.d (D.u64 a0),AV.d (D.u64 a1)] [] (.tup [.d (D.u64 r.1),.d (D.u64 r.2)]) []:=by
 refine oK Tryz.f154 ⟨rfl,?_⟩;unfold Fe at h;(conv=>whnf);refine .go ?_;obtain⟨⟨v1,v2⟩,g3,h⟩:=AA h;refine⟨_,_,some [],J7 g3,?_⟩;cases h;exact⟨rfl,rfl⟩
theorem NX {a0:List UInt8}{a1:Int}{r:(List UInt8)}(h:FM a0 a1=some r):yC wl 131 [AV.d (D.l 1 D.u8 a0),AV.d (D.i a1)] [] (AV.own 0 (List.map D.u8 r).length) [.row 5 1 (List.map D.u8 r) .no]:=by
 refine oK Tryz.f131 ⟨rfl,?_⟩;unfold FM at h;(conv=>whnf);refine .go ?_;refine sJ h ?_ ?_<;>intro h
 ·(conv=>whnf);refine .inl ?_;(conv=>whnf);refine .inr ?_;cases h;exact⟨rfl,rfl⟩
 (conv=>whnf);refine .go ?_;refine sJ h ?_ ?_<;>intro h
 ·exact nomatch h
 refine⟨a0.length,X10 _,?_⟩;refine⟨_,Ae _,?_⟩;refine⟨_,Ae _,?_⟩;obtain⟨⟨v1,v2⟩,g3,h⟩:=AA h;refine⟨_,_,some [],Lq g3,?_⟩;revert h;refine AG (fun v4=>⟨y3 a0::dd 5 (yu v2::dd 25 (yb v4::dd 44 ([]))),nn 77 ([])⟩) ?_ ?_
 ·intro k5 h;exact sJ h (fun h=>AB wk h) fun h=>AB wk h
 rintro v4 h;(conv=>whnf);refine .go ?_;refine sJ h ?_ ?_<;>intro h
 ·exact nomatch h
 refine⟨_,rfl,?_⟩;refine⟨a0.length,X10 _,?_⟩;(conv=>whnf);refine .go ?_;refine sJ h ?_ ?_<;>intro h
 ·(conv=>whnf);refine .inl ?_;(conv=>whnf);refine .inr ?_;cases h;exact⟨rfl,rfl⟩
 revert h;refine AG (fun v6=>⟨y3 a0::dd 6 (yi (AS (v2.toNat:Int))::yi v6::dd 68 ([])),nn 77 ([])⟩) ?_ ?_
 ·intro k7 h;refine sJ h (fun h=>?_) fun h=>AB wk h;refine⟨a0.length,X10 _,?_⟩;obtain⟨_,g8,h⟩:=AA h;refine⟨D4 g8,_,rfl,?_⟩;refine⟨a0.length,X10 _,?_⟩;refine⟨_,rfl,?_⟩;revert h;refine AG (fun v9=>⟨y3 a0::dd 6 (yi (AS (v2.toNat:Int))::yi v9::dd 68 ([])),nn 77 ([])⟩) ?_ ?_
  ·intro k10 h;refine sJ h (fun h=>?_) fun h=>AB wk h;refine⟨a0.length,X10 _,?_⟩;exact AB wk h
  rintro v9 h;exact AB wk h
 rintro v6 h;(conv=>whnf);have g11:=S3 h;refine .go (Y0 (fn:=Tryz.f155) (ps:=#[3]) (t:=44) (e:=5) Tryz.func155 (by kernel_rfl) (by kernel_rfl) (by kernel_rfl) (by kernel_rfl) Tryz.underlying44 g11.1 (r:=54) rfl (by decide) fun v12 hv11=>?_);replace h:=g11.2 v12 hv11;obtain⟨_,g13,h⟩:=AA h;obtain⟨v14,g15,h⟩:=AA h;refine⟨YX (f:=D.u8) g15 g13,rfl,_,EW (f:=D.u8) g15,?_⟩;refine⟨rfl,List.map D.u8 (cpy v14 0 v14.length a0),ZK,(min a0.length v14.length),Y8,?_⟩;revert h;refine AG (fun v16=>⟨dd 9 (yO 57 D.u8 v16::dd 67 ([])),nn 57 (yR 5 1 D.u8 v16::nn 19 ([]))⟩) ?_ ?_
 ·intro k17 h;revert h;refine Au (fun (v18,v19)=>⟨dd 7 (yi (AS (v2.toNat:Int))::yi v6::yO 57 D.u8 v19::yi v18::dd 66 ([])),nn 57 (yR 5 1 D.u8 v19::nn 19 ([]))⟩) ?_ ?_
  ·exact wk
  rintro next20 ⟨v18,v19⟩ K21 h hK22;(conv=>whnf);refine .go ?_;refine sJ h (fun h=>?_) fun h=>AB wk h;(conv=>whnf);refine .go ?_;refine⟨_,rfl,?_⟩;(conv=>whnf);refine .inl (dO ?_);(conv=>whnf);refine .inr (.inl ?_);obtain⟨_,g23,h⟩:=AA h;have g23c:=D4 g23;refine⟨Nx (f:=D.u8) g23,rfl,(Int.toNat v18),(Int.toNat (v19.length:Int)-Int.toNat v18),rfl,(by rw[X10]),?_⟩;(conv=>whnf);refine .inr (.inl ?_);obtain⟨_,g24,h⟩:=AA h;have g25c:=D4 g24;refine⟨OH (f:=D.u8) g24,rfl,(Int.toNat 0),(Int.toNat (if v6<v18 then v6 else v18)-Int.toNat 0),rfl,rfl,?_⟩;refine⟨(by first | rfl | (simp only[X10,X21];omega)|(simp only[cpy,X10,X21,X11,X18,X17,X20];omega)),List.map D.u8 (List.take (Int.toNat (if v6<v18 then v6 else v18)-Int.toNat 0) (List.drop (Int.toNat 0) v19)),J4,?_⟩;refine⟨(by first | rfl | (simp only[X10,X21];omega)|(simp only[cpy,X10,X21,X11,X18,X17,X20];omega)),List.map D.u8 (cpy v19 (Int.toNat v18) (Int.toNat (v19.length:Int)-Int.toNat v18) (List.take (Int.toNat (if v6<v18 then v6 else v18)-Int.toNat 0) (List.drop (Int.toNat 0) v19))),Zu,(min (List.take (Int.toNat (if v6<v18 then v6 else v18)-Int.toNat 0) (List.drop (Int.toNat 0) v19)).length (Int.toNat (v19.length:Int)-Int.toNat v18)),Z1,?_⟩;refine⟨_,rfl,?_⟩;(conv=>whnf);refine cO ?_;exact hK22 _ _ wk h
 rintro v16 h;(conv=>whnf);refine .inl ?_;(conv=>whnf);refine .inr ?_;cases h;exact⟨rfl,rfl⟩
theorem Ht {r:(List UInt8)}(h:CP=some r):yC wl 84 [] [] (AV.own 0 (List.map D.u8 r).length) [.row 5 1 (List.map D.u8 r) .no]:=by
 refine oK Tryz.f84 ⟨rfl,?_⟩;unfold CP at h;refine⟨rfl,?_⟩;obtain⟨v1,g2,h⟩:=AA h;refine⟨_,_,some [2],NX g2,?_⟩;(conv=>whnf);refine .inl ?_;(conv=>whnf);refine .inr ?_;cases h;exact⟨rfl,rfl⟩
theorem IT {a0:Int}{r:Bool}(h:EU a0=some r):yC wl 85 [AV.d (D.i a0)] [] (.d (D.b r)) []:=by
 refine oK Tryz.f85 ⟨rfl,?_⟩;unfold EU at h;revert h;refine AG (fun v1=>⟨X::X::yb v1::dd 6 ([]),nn 9 ([])⟩) ?_ ?_
 ·intro k2 h;exact sJ h (fun h=>AB wk h) fun h=>AB wk h
 rintro v1 h;cases h;exact⟨rfl,rfl⟩
theorem OM {a0:List UInt8}{r:(List UInt8)}(h:F5 a0=some r):yC wl 86 [AV.d (D.l 1 D.u8 a0)] [] (.d (D.l 1 D.u8 r)) []:=by
 refine oK Tryz.f86 ⟨rfl,?_⟩;unfold F5 at h;refine⟨?_,fun hz=>?_⟩
 ·(conv=>whnf);refine .go ?_;obtain⟨v1,g2,h⟩:=AA h;refine⟨rfl,AZ (f:=D.u8) (g:=D.u8) g2,_,Aa (f:=D.u8) g2,?_⟩;(conv=>whnf);refine .inl ?_;(conv=>whnf);refine .inl ?_;refine⟨rfl,?_⟩;cases h;exact⟨rfl,rfl⟩
 obtain rfl:a0=[]:=(by simpa using hz);replace h:=SH h;(conv=>whnf);refine .go ?_;(conv=>whnf);refine .inl ?_;cases h;exact⟨rfl,rfl⟩
theorem Dt {a0:List UInt8}{r:JAH×Int×Int}(h:CO a0=some r):yC wl 39 [AV.d (D.l 1 D.u8 a0)] [] (.tup [.d (JAH.toD r.1),.d (D.i r.2.1),.d (D.i r.2.2)]) []:=by
 refine oK Tryz.f39 ⟨rfl,?_⟩;unfold CO at h;(conv=>whnf);refine .inl (dO ?_);obtain⟨v1,g2,h⟩:=AA h;refine⟨_,_,Ht g2,.inr rfl,?_⟩;refine⟨a0.length,X10 _,?_⟩;refine⟨_,rfl,?_⟩;obtain⟨v3,g4,h⟩:=AA h;refine⟨EX (f:=D.u8) g4,_,EW (f:=D.u8) g4,?_⟩;refine⟨rfl,?_⟩;obtain⟨v5,g6,h⟩:=AA h;refine⟨_,_,Jv g6,.inl rfl,?_⟩;(conv=>whnf);refine cO ?_;(conv=>whnf);refine .go ?_;refine sJ h ?_ ?_<;>intro h
 ·cases h;exact⟨rfl,rfl⟩
 refine⟨a0.length,X10 _,?_⟩;(conv=>whnf);refine .go ?_;refine sJ h ?_ ?_<;>intro h
 ·cases h;exact⟨rfl,rfl⟩
 (conv=>whnf);refine .inl (dO ?_);obtain⟨v7,g8,h⟩:=AA h;refine⟨Ku (f:=D.u8) g8,_,LR (f:=D.u8) g8,?_⟩;obtain⟨v9,g10,h⟩:=AA h;refine⟨_,_,Pm g10,.inl rfl,?_⟩;obtain⟨v11,g12,h⟩:=AA h;refine⟨Ap (f:=D.u8) g12,D.u8 v11,An (f:=D.u8) g12,rfl,?_⟩;refine⟨_,GW v11,?_⟩;(conv=>whnf);refine cO ?_;(conv=>whnf);refine .go ?_;revert h;refine AG (fun v13=>⟨y3 a0::X::yr 2 0::X::X::yi v9::yi (v11.toNat:Int)::dd 20 (yb v13::dd 25 ([])),N::N::yB JAH.zv::nn 50 ([])⟩) ?_ ?_
 ·intro k14 h;refine sJ h (fun h=>AB wk h) fun h=>?_;refine sJ h (fun h=>AB wk h) fun h=>?_;obtain⟨v15,g16,h⟩:=AA h;refine⟨_,_,some [],IT g16,?_⟩;exact AB wk h
 rintro v13 h;(conv=>whnf);refine .go ?_;refine sJ h ?_ ?_<;>intro h
 ·cases h;exact⟨rfl,rfl⟩
 refine⟨a0.length,X10 _,?_⟩;(conv=>whnf);refine .go ?_;refine sJ h ?_ ?_<;>intro h
 ·cases h;exact⟨rfl,rfl⟩
 obtain⟨v17,g18,h⟩:=AA h;refine⟨EX (f:=D.u8) g18,_,EW (f:=D.u8) g18,?_⟩;obtain⟨v19,g20,h⟩:=AA h;refine⟨_,_,some [],OM g20,?_⟩;cases h;exact⟨rfl,rfl⟩
theorem law19_UpdateStream_ok {a0:List (List UInt8)}{a1:Int}{a2:Int}{r:Bool}(h:By a0 a1 a2=some r):yC wl 9 [AV.d (D.l 1 (D.l 1 D.u8) a0),AV.d (D.i a1),AV.d (D.i a2)] [] (.d (D.b r)) []:=by
 refine oK Tryz.f9 ⟨rfl,?_⟩;unfold By at h;refine⟨a0.length,X10 _,?_⟩;(conv=>whnf);refine .go ?_;refine sJ h ?_ ?_<;>intro h
 ·obtain⟨v1,g2,h⟩:=AA h;refine⟨_,_,some [],Bh g2,?_⟩;cases h;exact⟨rfl,rfl⟩
 refine⟨a0.length,X10 _,?_⟩;revert h;refine AG (fun v3=>⟨AV.d (D.l 1 (D.l 1 D.u8) a0)::X::yi a2::dd 4 (yO 7 D.u8 v3::dd 114 ([])),nn 7 (yR 5 1 D.u8 v3::nn 114 ([]))⟩) ?_ ?_
 ·intro k4 h;revert h;refine Ag 28 1 (D.l 1 D.u8) rfl (fun i5 v6=>⟨AV.d (D.l 1 (D.l 1 D.u8) a0)::yi a1::yi a2::dd 4 (yO 7 D.u8 v6::dd 20 (AV.d (D.l 1 (D.l 1 D.u8) a0)::yi (a0.length:Int)::yi (i5:Int)::dd 91 ([]))),nn 7 (yR 5 1 D.u8 v6::nn 114 ([]))⟩) ?_ ?_ ?_
  ·exact wk
  ·rintro v6 K7 h;(conv=>whnf);refine .go ?_;(conv=>whnf);refine BL DL ?_;exact AB wk h
  rintro next8 i5 x9 v6 K7 hii5 hxi5 hwi5 h hK10;(conv=>whnf);refine .go ?_;(conv=>whnf);refine BC (CX hii5) ?_;(conv=>whnf);refine .go ?_;refine⟨BB (f:=(D.l 1 D.u8)) hii5,(D.l 1 D.u8) x9,hxi5,rfl,?_⟩;obtain⟨v11,g12,h⟩:=AA h;refine⟨_,_,some [],Fh g12,?_⟩;(conv=>whnf);refine .go ?_;refine sJ h ?_ ?_<;>intro h
  ·obtain⟨v13,g14,h⟩:=AA h;refine⟨_,_,some [],Bh g14,?_⟩;cases h;exact⟨rfl,rfl⟩
  obtain⟨v15,g16,h⟩:=AA h;refine⟨_,_,some [],Aw g16,?_⟩;refine⟨_,rfl,?_⟩;obtain⟨⟨v17,v18⟩,g19,h⟩:=AA h;refine⟨_,_,some [],FD g19,?_⟩;obtain⟨v20,g21,h⟩:=AA h;refine⟨rfl,AZ (f:=D.u8) (g:=D.u8) g21,_,Aa (f:=D.u8) g21,?_⟩;refine⟨_,hwi5,?_⟩;exact hK10 _ _ wk h
 rintro v3 h;refine⟨v3.length,by first | exact X10 _ | rfl | (simp only[X10];omega),?_⟩;obtain⟨v22,g23,h⟩:=AA h;refine⟨_,_,some [],Aw g23,?_⟩;obtain⟨⟨v24,v25⟩,g26,h⟩:=AA h;refine⟨_,_,some [],FD g26,?_⟩;obtain⟨v27,g28,h⟩:=AA h;refine⟨EX (f:=D.u8) g28,_,EW (f:=D.u8) g28,?_⟩;obtain⟨v29,g30,h⟩:=AA h;refine⟨rfl,AZ (f:=D.u8) (g:=D.u8) g30,_,Aa (f:=D.u8) g30,?_⟩;refine⟨a0.length,X10 _,?_⟩;revert h;refine AG (fun (v31,v32)=>⟨dd 7 (y3 v31::dd 4 (yi v32::dd 109 ([]))),nn 122 ([])⟩) ?_ ?_
 ·intro k33 h;revert h;refine Ag 65 1 (D.l 1 D.u8) rfl (fun i34 (v35,v36)=>⟨dd 7 (y3 v35::dd 4 (yi v36::dd 52 (AV.d (D.l 1 (D.l 1 D.u8) a0)::yi (a0.length:Int)::yi (i34:Int)::dd 54 ([])))),nn 122 ([])⟩) ?_ ?_ ?_
  ·exact wk
  ·rintro⟨v35,v36⟩ K37 h;(conv=>whnf);refine .go ?_;(conv=>whnf);refine BL DL ?_;exact AB wk h
  rintro next38 i34 x39 ⟨v35,v36⟩ K37 hii34 hxi34 hwi34 h hK40;(conv=>whnf);refine .go ?_;(conv=>whnf);refine BC (CX hii34) ?_;(conv=>whnf);refine .go ?_;refine⟨BB (f:=(D.l 1 D.u8)) hii34,(D.l 1 D.u8) x39,hxi34,rfl,?_⟩;obtain⟨⟨v41,v42,v43⟩,g44,h⟩:=AA h;refine⟨_,_,some [],Dt g44,?_⟩;revert h;refine AG (fun v45=>⟨dd 7 (y3 v35::dd 4 (yi v36::dd 6 (yi v42::dd 45 (AV.d (D.l 1 (D.l 1 D.u8) a0)::yi (a0.length:Int)::yi (i34:Int)::dd 31 (yb v45::dd 22 ([])))))),nn 122 ([])⟩) ?_ ?_
  ·intro k46 h;refine sJ h (fun h=>AB wk h) fun h=>?_;refine⟨v41.Body,rfl,?_⟩;refine⟨x39,rfl,?_⟩;refine sJ h (fun h=>AB wk h) fun h=>?_;refine⟨x39.length,X10 _,?_⟩;refine⟨_,rfl,?_⟩;refine sJ h (fun h=>AB wk h) fun h=>?_;refine⟨v35.length,X10 _,?_⟩;exact AB wk h
  rintro v45 h;(conv=>whnf);refine .go ?_;refine sJ h ?_ ?_<;>intro h
  ·cases h;exact⟨rfl,rfl⟩
  obtain⟨v47,g48,h⟩:=AA h;refine⟨Ku (f:=D.u8) g48,_,LR (f:=D.u8) g48,?_⟩;refine⟨_,rfl,?_⟩;refine⟨_,hwi34,?_⟩;exact hK40 _ _ wk h
 rintro⟨v31,v32⟩ h;obtain⟨⟨v49,v50,v51⟩,g52,h⟩:=AA h;refine⟨_,_,some [],Dt g52,?_⟩;revert h;refine AG (fun v53=>⟨dd 6 (yb v53::dd 115 ([])),nn 122 ([])⟩) ?_ ?_
 ·intro k54 h;refine sJ h (fun h=>?_) fun h=>AB wk h;refine sJ h (fun h=>?_) fun h=>AB wk h;obtain⟨v55,g56,h⟩:=AA h;refine⟨_,_,some [],Bh g56,?_⟩;exact AB wk h
 rintro v53 h;cases h;exact⟨rfl,rfl⟩
theorem IZ {a0:JAH}{r:(List UInt8)×Int}(h:EN a0=some r):yC wl 40 [AV.d (JAH.toD a0)] [] (.tup [.d (D.l 1 D.u8 r.1),.d (D.i r.2)]) []:=by
 refine oK Tryz.f40 ⟨rfl,?_⟩;unfold EN at h;(conv=>whnf);refine .go ?_;obtain⟨v1,g2,h⟩:=AA h;refine⟨_,_,some [],IT g2,?_⟩;(conv=>whnf);refine .go ?_;refine sJ h ?_ ?_<;>intro h
 ·cases h;exact⟨rfl,rfl⟩
 refine⟨a0.Body.length,X10 _,?_⟩;(conv=>whnf);refine .go ?_;refine sJ h ?_ ?_<;>intro h
 ·cases h;exact⟨rfl,rfl⟩
 (conv=>whnf);refine .inl (dO ?_);obtain⟨v3,g4,h⟩:=AA h;refine⟨_,_,Ht g4,.inr rfl,?_⟩;refine⟨a0.Body.length,X10 _,?_⟩;refine⟨_,rfl,?_⟩;obtain⟨v5,g6,h⟩:=AA h;refine⟨_,_,Jn g6,.inl rfl,?_⟩;refine⟨_,Af _,?_⟩;refine⟨rfl,?_⟩;obtain⟨v7,g8,h⟩:=AA h;refine⟨rfl,AZ (f:=D.u8) (g:=D.u8) g8,_,Aa (f:=D.u8) g8,?_⟩;obtain⟨v9,g10,h⟩:=AA h;refine⟨rfl,AZ (f:=D.u8) (g:=D.u8) g10,_,Aa (f:=D.u8) g10,?_⟩;(conv=>whnf);refine cO ?_;(conv=>whnf);refine .inl ?_;refine⟨rfl,?_⟩;cases h;exact⟨rfl,rfl⟩
theorem O7 {a0:List UInt8}{r:JAH×Int×Int}(h:Fq a0=some r):yC wl 41 [AV.d (D.l 1 D.u8 a0)] [] (.tup [.d (JAH.toD r.1),.d (D.i r.2.1),.d (D.i r.2.2)]) []:=by
 refine oK Tryz.f41 ⟨rfl,?_⟩;unfold Fq at h;refine⟨a0.length,X10 _,?_⟩;revert h;refine AG (fun _=>⟨y3 a0::X::yr 2 0::dd 68 ([]),N::N::yB JAH.zv::nn 68 ([])⟩) ?_ ?_
 ·intro k1 h;revert h;refine Ag 8 1 D.u8 rfl (fun i2 _=>⟨y3 a0::X::yr 2 0::dd 5 (y3 a0::yi (a0.length:Int)::yi (i2:Int)::dd 60 ([])),N::N::yB JAH.zv::nn 68 ([])⟩) ?_ ?_ ?_
  ·exact wk
  ·rintro _ K3 h;(conv=>whnf);refine .go ?_;(conv=>whnf);refine BL DL ?_;exact AB wk h
  rintro next4 i2 x5 _ K3 hii2 hxi2 hwi2 h hK6;(conv=>whnf);refine .go ?_;(conv=>whnf);refine BC (CX hii2) ?_;(conv=>whnf);refine .go ?_;refine⟨BB (f:=D.u8) hii2,D.u8 x5,hxi2,rfl,?_⟩;revert h;refine AG (fun v7=>⟨y3 a0::X::yr 2 0::dd 5 (y3 a0::yi (a0.length:Int)::yi (i2:Int)::dd 9 (yb v7::dd 50 ([]))),N::N::yB JAH.zv::nn 68 ([])⟩) ?_ ?_
  ·intro k8 h;exact sJ h (fun h=>AB wk h) fun h=>AB wk h
  rintro v7 h;(conv=>whnf);refine .go ?_;refine sJ h ?_ ?_<;>intro h
  ·cases h;exact⟨rfl,rfl⟩
  refine⟨_,hwi2,?_⟩;exact hK6 _ _ wk h
 rintro _ h;refine⟨a0.length,X10 _,?_⟩;(conv=>whnf);refine .go ?_;refine sJ h ?_ ?_<;>intro h
 ·cases h;exact⟨rfl,rfl⟩
 (conv=>whnf);refine .inl (dO ?_);obtain⟨v9,g10,h⟩:=AA h;refine⟨Ap (f:=D.u8) g10,D.u8 v9,An (f:=D.u8) g10,rfl,?_⟩;refine⟨_,GW v9,?_⟩;refine⟨by decide,_,rfl,?_⟩;obtain⟨v11,g12,h⟩:=AA h;refine⟨Ap (f:=D.u8) g12,D.u8 v11,An (f:=D.u8) g12,rfl,?_⟩;refine⟨_,GW v11,?_⟩;refine⟨_,rfl,?_⟩;(conv=>whnf);refine cO ?_;revert h;refine AG (fun v13=>⟨y3 a0::X::yr 2 0::dd 4 (AV.d (D.i (AS ((BitVec.ofInt 64 (AS ((v9.toNat:Int)*(2^(min (Int.toNat 8) 64)))) ||| BitVec.ofInt 64 (v11.toNat:Int)).toNat:Int)))::dd 46 (yb v13::dd 16 ([]))),N::N::yB JAH.zv::nn 68 ([])⟩) ?_ ?_
 ·intro k14 h;refine sJ h (fun h=>AB wk h) fun h=>?_;refine sJ h (fun h=>AB wk h) fun h=>?_;obtain⟨v15,g16,h⟩:=AA h;refine⟨Ap (f:=D.u8) g16,D.u8 v15,An (f:=D.u8) g16,rfl,?_⟩;refine sJ h (fun h=>AB wk h) fun h=>?_;obtain⟨v17,g18,h⟩:=AA h;refine⟨Ap (f:=D.u8) g18,D.u8 v17,An (f:=D.u8) g18,rfl,?_⟩;exact AB wk h
 rintro v13 h;(conv=>whnf);refine .go ?_;refine sJ h ?_ ?_<;>intro h
 ·cases h;exact⟨rfl,rfl⟩
 refine⟨a0.length,X10 _,?_⟩;(conv=>whnf);refine .go ?_;refine sJ h ?_ ?_<;>intro h
 ·cases h;exact⟨rfl,rfl⟩
 (conv=>whnf);refine .inl (dO ?_);obtain⟨v19,g20,h⟩:=AA h;refine⟨Ap (f:=D.u8) g20,D.u8 v19,An (f:=D.u8) g20,rfl,?_⟩;refine⟨_,GW v19,?_⟩;obtain⟨v21,g22,h⟩:=AA h;refine⟨EX (f:=D.u8) g22,_,EW (f:=D.u8) g22,?_⟩;obtain⟨_,g23,h⟩:=AA h;refine⟨Ci (g:=D.u8) g23,?_⟩;(conv=>whnf);refine cO ?_;refine⟨rfl,?_⟩;cases h;exact⟨rfl,rfl⟩
theorem law19_UpdateFrames_ok {a0:JAH}{a1:List UInt8}{a2:Int}{a3:Int}{a4:Int}{r:Bool}(h:Bv a0 a1 a2 a3 a4=some r):yC wl 10 [AV.d (JAH.toD a0),AV.d (D.l 1 D.u8 a1),AV.d (D.i a2),AV.d (D.i a3),AV.d (D.i a4)] [] (.d (D.b r)) []:=by
 refine oK Tryz.f10 ⟨rfl,?_⟩;unfold Bv at h;revert h;refine AG (fun v1=>⟨X::y3 a1::yi a2::yi a3::yi a4::yr 5 0::dd 31 (yb v1::dd 117 ([])),nn 5 (yB (JAH.av a0)::nn 149 ([]))⟩) ?_ ?_
 ·intro k2 h;obtain⟨v3,g4,h⟩:=AA h;refine⟨_,_,some [],Fh g4,?_⟩;refine sJ h (fun h=>AB wk h) fun h=>?_;obtain⟨v5,g6,h⟩:=AA h;refine⟨_,_,some [],Fh g6,?_⟩;exact AB wk h
 rintro v1 h;(conv=>whnf);refine .go ?_;refine sJ h ?_ ?_<;>intro h
 ·obtain⟨v7,g8,h⟩:=AA h;refine⟨_,_,some [],Bh g8,?_⟩;cases h;exact⟨rfl,rfl⟩
 obtain⟨v9,g10,h⟩:=AA h;refine⟨_,_,some [],Aw g10,?_⟩;obtain⟨v11,g12,h⟩:=AA h;refine⟨_,_,some [],Aw g12,?_⟩;refine⟨_,rfl,?_⟩;obtain⟨_,g13,h⟩:=AA h;refine⟨UR g13 (X29 rfl),D.u8 (0:UInt8),rfl,(List.map D.u8 (List.replicate (Int.toNat (AS (4076+v11))) (0:UInt8))),List.map_replicate.symm,?_⟩;refine⟨rfl,?_⟩;refine⟨([a0,(⟨v9,a1⟩:JAH),(⟨2,(List.replicate (Int.toNat (AS (4076+v11))) (0:UInt8))⟩:JAH)]:List JAH).length,by first | exact X10 _ | rfl | (simp only[X10];omega),?_⟩;revert h;refine AG (fun _=>⟨X::y3 a1::yi a2::yi a3::yi a4::dd 150 ([]),nn 155 ([])⟩) ?_ ?_
 ·intro k14 h;revert h;refine JH 51 72 2 .no JAH.toD rfl (fun i15 _=>⟨X::y3 a1::yi a2::yi a3::yi a4::dd 46 (AV.own 51 (List.map JAH.toD ([a0,(⟨v9,a1⟩:JAH),(⟨2,(List.replicate (Int.toNat (AS (4076+v11))) (0:UInt8))⟩:JAH)]:List JAH)).length::AV.d (D.i (([a0,(⟨v9,a1⟩:JAH),(⟨2,(List.replicate (Int.toNat (AS (4076+v11))) (0:UInt8))⟩:JAH)]:List JAH).length:Int))::yi (i15:Int)::dd 101 ([])),nn 51 (some (OB.row 72 2 (List.map JAH.toD ([a0,(⟨v9,a1⟩:JAH),(⟨2,(List.replicate (Int.toNat (AS (4076+v11))) (0:UInt8))⟩:JAH)]:List JAH)) .no)::nn 103 ([]))⟩) ?_ ?_ ?_
  ·exact wk
  ·rintro _ K16 h;(conv=>whnf);refine .go ?_;exact AB wk h
  rintro next17 i15 x18 _ K16 hii15 hxi15 hwi15 h hK19;(conv=>whnf);refine .go ?_;(conv=>whnf);refine BC (CX hii15) ?_;(conv=>whnf);refine .go ?_;refine⟨rfl,BB (f:=JAH.toD) hii15,?_⟩;refine⟨rfl,JAH.toD x18,hxi15,?_⟩;obtain⟨⟨v20,v21⟩,g22,h⟩:=AA h;refine⟨_,_,some [],IZ g22,?_⟩;obtain⟨⟨v23,v24⟩,g25,h⟩:=AA h;refine⟨_,_,some [],FD g25,?_⟩;revert h;refine AG (fun v26=>⟨X::y3 a1::yi a2::yi a3::yi a4::dd 46 (AV.own 51 (List.map JAH.toD ([a0,(⟨v9,a1⟩:JAH),(⟨2,(List.replicate (Int.toNat (AS (4076+v11))) (0:UInt8))⟩:JAH)]:List JAH)).length::AV.d (D.i (([a0,(⟨v9,a1⟩:JAH),(⟨2,(List.replicate (Int.toNat (AS (4076+v11))) (0:UInt8))⟩:JAH)]:List JAH).length:Int))::yi (i15:Int)::dd 22 (yb v26::dd 78 ([]))),nn 51 (some (OB.row 72 2 (List.map JAH.toD ([a0,(⟨v9,a1⟩:JAH),(⟨2,(List.replicate (Int.toNat (AS (4076+v11))) (0:UInt8))⟩:JAH)]:List JAH)) .no)::nn 103 ([]))⟩) ?_ ?_
  ·intro k27 h;refine⟨v20,rfl,?_⟩;refine⟨v23,rfl,?_⟩;exact sJ h (fun h=>AB wk h) fun h=>AB wk h
  rintro v26 h;(conv=>whnf);refine .go ?_;refine sJ h ?_ ?_<;>intro h
  ·cases h;exact⟨rfl,rfl⟩
  refine⟨_,hwi15,?_⟩;exact hK19 _ _ wk h
 rintro _ h;obtain⟨v28,g29,h⟩:=AA h;refine⟨_,_,some [],Aw g29,?_⟩;refine⟨_,rfl,?_⟩;obtain⟨⟨v30,v31⟩,g32,h⟩:=AA h;refine⟨_,_,some [],FD g32,?_⟩;(conv=>whnf);refine .inl (dO ?_);obtain⟨v33,g34,h⟩:=AA h;refine⟨_,_,Iq g34,.inl rfl,?_⟩;obtain⟨v35,g36,h⟩:=AA h;refine⟨_,_,Aw g36,.inl rfl,?_⟩;refine⟨_,rfl,?_⟩;obtain⟨v37,g38,h⟩:=AA h;refine⟨_,_,Aw g38,.inl rfl,?_⟩;obtain⟨v39,g40,h⟩:=AA h;refine⟨_,_,Iq g40,.inl rfl,?_⟩;refine⟨v30.length,X10 _,?_⟩;refine⟨_,rfl,?_⟩;obtain⟨v41,g42,h⟩:=AA h;refine⟨_,_,Aw g42,.inl rfl,?_⟩;obtain⟨v43,g44,h⟩:=AA h;refine⟨EX (f:=D.u8) g44,_,EW (f:=D.u8) g44,?_⟩;obtain⟨_,g45,h⟩:=AA h;refine⟨Ci (g:=D.u8) g45,?_⟩;obtain⟨v46,g47,h⟩:=AA h;refine⟨rfl,AZ (f:=D.u8) (g:=D.u8) g47,_,Aa (f:=D.u8) g47,?_⟩;refine⟨rfl,?_⟩;refine⟨([a1,v30,v33,v39,v43,v46]:List (List UInt8)).length,by first | exact X10 _ | rfl | (simp only[X10];omega),?_⟩;(conv=>whnf);refine cO ?_;revert h;refine AG (fun _=>⟨dd 155 ([]),nn 155 ([])⟩) ?_ ?_
 ·intro k48 h;revert h;refine JH 111 44 1 .no (D.l 1 D.u8) rfl (fun i49 _=>⟨dd 111 (AV.own 111 (List.map (D.l 1 D.u8) ([a1,v30,v33,v39,v43,v46]:List (List UInt8))).length::yi (([a1,v30,v33,v39,v43,v46]:List (List UInt8)).length:Int)::yi (i49:Int)::dd 41 ([])),nn 111 (some (OB.row 44 1 (List.map (D.l 1 D.u8) ([a1,v30,v33,v39,v43,v46]:List (List UInt8))) .no)::nn 43 ([]))⟩) ?_ ?_ ?_
  ·exact wk
  ·rintro _ K50 h;(conv=>whnf);refine .go ?_;exact AB wk h
  rintro next51 i49 x52 _ K50 hii49 hxi49 hwi49 h hK53;(conv=>whnf);refine .go ?_;(conv=>whnf);refine BC (CX hii49) ?_;(conv=>whnf);refine .go ?_;refine⟨rfl,BB (f:=(D.l 1 D.u8)) hii49,?_⟩;refine⟨rfl,(D.l 1 D.u8) x52,hxi49,?_⟩;obtain⟨⟨v54,v55,v56⟩,g57,h⟩:=AA h;refine⟨_,_,some [],Dt g57,?_⟩;obtain⟨⟨v58,v59,v60⟩,g61,h⟩:=AA h;refine⟨_,_,some [],O7 g61,?_⟩;revert h;refine AG (fun v62=>⟨dd 111 (AV.own 111 (List.map (D.l 1 D.u8) ([a1,v30,v33,v39,v43,v46]:List (List UInt8))).length::yi (([a1,v30,v33,v39,v43,v46]:List (List UInt8)).length:Int)::yi (i49:Int)::dd 38 (yb v62::X::X::[])),nn 111 (some (OB.row 44 1 (List.map (D.l 1 D.u8) ([a1,v30,v33,v39,v43,v46]:List (List UInt8))) .no)::nn 43 ([]))⟩) ?_ ?_
  ·intro k63 h;refine sJ h (fun h=>AB wk h) fun h=>?_;refine⟨v54.Body,rfl,?_⟩;refine⟨v58.Body,rfl,?_⟩;refine sJ h (fun h=>AB wk h) fun h=>?_;exact sJ h (fun h=>AB wk h) fun h=>AB wk h
  rintro v62 h;(conv=>whnf);refine .go ?_;refine sJ h ?_ ?_<;>intro h
  ·cases h;exact⟨rfl,rfl⟩
  refine⟨_,hwi49,?_⟩;exact hK53 _ _ wk h
 rintro _ h;obtain⟨v64,g65,h⟩:=AA h;refine⟨_,_,some [],Bh g65,?_⟩;cases h;exact⟨rfl,rfl⟩
theorem law19_UpdateCut_ok {a0:List UInt8}{a1:Int}{a2:Int}{a3:Int}{a4:Int}{r:Bool}(h:C4 a0 a1 a2 a3 a4=some r):yC wl 11 [AV.d (D.l 1 D.u8 a0),AV.d (D.i a1),AV.d (D.i a2),AV.d (D.i a3),AV.d (D.i a4)] [] (.d (D.b r)) []:=by
 refine oK Tryz.f11 ⟨rfl,?_⟩;unfold C4 at h;obtain⟨v1,g2,h⟩:=AA h;refine⟨_,_,some [],Fh g2,?_⟩;(conv=>whnf);refine .go ?_;refine sJ h ?_ ?_<;>intro h
 ·obtain⟨v3,g4,h⟩:=AA h;refine⟨_,_,some [],Bh g4,?_⟩;cases h;exact⟨rfl,rfl⟩
 obtain⟨v5,g6,h⟩:=AA h;refine⟨_,_,some [],Aw g6,?_⟩;refine⟨_,rfl,?_⟩;obtain⟨⟨v7,v8⟩,g9,h⟩:=AA h;refine⟨_,_,some [],IZ g9,?_⟩;revert h;refine AG (fun v10=>⟨X::X::yi a2::yi a3::yi a4::dd 6 (y3 v7::dd 30 (yb v10::dd 43 ([]))),nn 86 ([])⟩) ?_ ?_
 ·intro k11 h;refine sJ h (fun h=>AB wk h) fun h=>?_;refine⟨v7.length,X10 _,?_⟩;refine⟨a0.length,X10 _,?_⟩;refine⟨_,rfl,?_⟩;exact AB wk h
 rintro v10 h;(conv=>whnf);refine .go ?_;refine sJ h ?_ ?_<;>intro h
 ·cases h;exact⟨rfl,rfl⟩
 refine⟨v7.length,X10 _,?_⟩;obtain⟨v12,g13,h⟩:=AA h;refine⟨_,_,some [],Aw g13,?_⟩;obtain⟨v14,g15,h⟩:=AA h;refine⟨EX (f:=D.u8) g15,_,EW (f:=D.u8) g15,?_⟩;obtain⟨⟨v16,v17,v18⟩,g19,h⟩:=AA h;refine⟨_,_,some [],Dt g19,?_⟩;obtain⟨_,g20,h⟩:=AA h;refine⟨Ci (g:=D.u8) g20,?_⟩;obtain⟨v21,g22,h⟩:=AA h;refine⟨_,_,some [],Aw g22,?_⟩;obtain⟨v23,g24,h⟩:=AA h;refine⟨_,_,some [],Aw g24,?_⟩;refine⟨_,Af _,?_⟩;obtain⟨v25,g26,h⟩:=AA h;refine⟨rfl,Ap (f:=D.u8) g26,?_⟩;obtain⟨v27,g28,h⟩:=AA h;have g28l:=Ld g28;refine⟨rfl,rfl,D.u8 v25,(An (f:=D.u8) g26),?_⟩;refine⟨_,RS (f:=D.u8) g28,?_⟩;refine⟨(by first | rfl | (simp only[X10];omega)|(simp only[cpy,X10,X21,X11,X18,X17,X20];omega)),?_⟩;obtain⟨⟨v29,v30,v31⟩,g32,h⟩:=AA h;refine⟨_,_,some [],Dt g32,?_⟩;revert h;refine AG (fun v33=>⟨dd 10 (yb v33::dd 75 ([])),nn 86 ([])⟩) ?_ ?_
 ·intro k34 h;refine sJ h (fun h=>?_) fun h=>AB wk h;refine sJ h (fun h=>?_) fun h=>AB wk h;refine sJ h (fun h=>?_) fun h=>AB wk h;refine sJ h (fun h=>?_) fun h=>AB wk h;obtain⟨v35,g36,h⟩:=AA h;refine⟨_,_,some [],Bh g36,?_⟩;exact AB wk h
 rintro v33 h;cases h;exact⟨rfl,rfl⟩
end Go.AX.Q19
end
