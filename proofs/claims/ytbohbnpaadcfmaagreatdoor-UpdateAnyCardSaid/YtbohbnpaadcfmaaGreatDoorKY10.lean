/-
  Texts of one proof, packed.
-/
import Derived.Test.YtbohbnpaadcfmaaGreatDoorKY5
import Derived.Test.YtbohbnpaadcfmaaGreatDoorKY8
import Derived.Test.YtbohbnpaadcfmaaGreatDoorKY9
set_option linter.all false
set_option maxRecDepth 100000
set_option maxHeartbeats 4000000
open List renaming length_map→X10,length_append→X11,length_drop→X17,length_take→X18,length_replicate→X20,length_set→X21
open Nat renaming le_of_ble_eq_true→X29
section
namespace Go.AX.Q19
open Go Go.AX Go.Proofs
variable {wl:Prop}
theorem SC {a0:List UInt8}{r:Bool}(h:JR a0=some r):yC wl 26 [AV.d (D.l 1 D.u8 a0)] [] (.d (D.b r)) []:=by
 refine oK Tryz.f26 ⟨rfl,?_⟩;unfold JR at h;refine⟨a0.length,X10 _,?_⟩;cases h;exact⟨rfl,rfl⟩
theorem Ib {a0:JAI}{a1:Int}{r:(List UInt8)×JAI}(h:Fj a0 a1=some r):yC wl 56 [.ref 0 0,AV.d (D.i a1)] [.box (JAI.av a0)] (.d (D.l 1 D.u8 r.1)) [.box (JAI.av r.2)]:=by
 refine oK Tryz.f56 ⟨rfl,?_⟩;unfold Fj at h;obtain⟨⟨v1,v2⟩,g3,h⟩:=AA h;refine⟨_,_,some [],AK g3,?_⟩;revert h;refine AD (fun (v4,v5)=>⟨dd 5 (yO 6 D.u8 v5::dd 37 ([])),yB (JAI.av v4)::nn 5 (yR 5 1 D.u8 v5::nn 37 ([]))⟩) ?_ ?_
 ·intro k6 h;revert h;refine Ap (fun (v7,v8,v9)=>⟨yr 0 0::yi a1::X::X::X::yO 6 D.u8 v9::yi v7::dd 36 ([]),yB (JAI.av v8)::nn 5 (yR 5 1 D.u8 v9::nn 37 ([]))⟩) ?_ ?_
  ·exact wk
  rintro next10 ⟨v7,v8,v9⟩ K11 h hK12;(conv=>whnf);refine .go ?_;refine sJ h (fun h=>?_) fun h=>AB wk h;revert h;refine AD (fun (v13,v14)=>⟨yr 0 0::yi a1::X::X::X::yO 6 D.u8 v14::yi v7::dd 36 ([]),yB (JAI.av v13)::nn 5 (yR 5 1 D.u8 v14::nn 37 ([]))⟩) ?_ ?_
  ·intro k15 h;refine⟨_,rfl,?_⟩;obtain⟨⟨v16,v17⟩,g18,h⟩:=AA h;refine⟨_,_,some [],AK g18,?_⟩;obtain⟨⟨v19,v20⟩,g21,h⟩:=AA h;refine⟨_,_,some [],AK g21,?_⟩;revert h;refine AD (fun v22=>⟨yr 0 0::yi a1::X::X::X::yO 6 D.u8 v9::yi v7::yi v22::dd 35 ([]),yB (JAI.av v20)::nn 5 (yR 5 1 D.u8 v9::nn 37 ([]))⟩) ?_ ?_
   ·intro k23 h;refine sJ h (fun h=>?_) fun h=>AB wk h;refine⟨_,rfl,?_⟩;exact AB wk h
   rintro v22 h;refine⟨_,Aj _,?_⟩;refine⟨rfl,?_⟩;obtain⟨v24,g25,h⟩:=AA h;refine⟨rfl,AT (f:=D.u8) (g:=D.u8) g25,_,AU (f:=D.u8) g25,?_⟩;revert h;refine AD (fun (v26,v27)=>⟨yr 0 0::yi a1::X::X::X::yO 6 D.u8 v27::yi v7::dd 36 ([]),yB (JAI.av v26)::nn 5 (yR 5 1 D.u8 v27::nn 37 ([]))⟩) ?_ ?_
   ·intro k28 h;revert h;refine Ap (fun (v29,v30,v31)=>⟨yr 0 0::yi a1::X::X::X::yO 6 D.u8 v31::yi v7::yi v22::yi v29::dd 34 ([]),yB (JAI.av v30)::nn 5 (yR 5 1 D.u8 v31::nn 37 ([]))⟩) ?_ ?_
    ·exact wk
    rintro next32 ⟨v29,v30,v31⟩ K33 h hK34;refine⟨_,rfl,?_⟩;refine⟨by decide,_,rfl,?_⟩;(conv=>whnf);refine .go ?_;refine sJ h (fun h=>?_) fun h=>AB wk h;(conv=>whnf);refine .go ?_;obtain⟨⟨v35,v36⟩,g37,h⟩:=AA h;refine⟨_,_,some [],AK g37,?_⟩;refine⟨_,Aj _,?_⟩;refine⟨rfl,?_⟩;obtain⟨v38,g39,h⟩:=AA h;refine⟨rfl,AT (f:=D.u8) (g:=D.u8) g39,_,AU (f:=D.u8) g39,?_⟩;refine⟨_,rfl,?_⟩;exact hK34 _ _ wk h
   rintro⟨v26,v27⟩ h;exact AB wk h
  rintro⟨v13,v14⟩ h;refine⟨_,rfl,?_⟩;exact hK12 _ _ wk h
 rintro⟨v4,v5⟩ h;(conv=>whnf);refine .inl ?_;(conv=>whnf);refine .inl ?_;refine⟨rfl,?_⟩;cases h;exact⟨rfl,rfl⟩
theorem Rz {a0:JAI}{r:(List UInt8)×JAI}(h:Ho a0=some r):yC wl 27 [.ref 0 0] [.box (JAI.av a0)] (.d (D.l 1 D.u8 r.1)) [.box (JAI.av r.2)]:=by
 refine oK Tryz.f27 ⟨rfl,?_⟩;unfold Ho at h;obtain⟨⟨v1,v2⟩,g3,h⟩:=AA h;refine⟨_,_,some [],AK g3,?_⟩;(conv=>whnf);refine .go ?_;refine sJ h ?_ ?_<;>intro h
 ·obtain⟨⟨v4,v5⟩,g6,h⟩:=AA h;refine⟨_,_,some [],LH g6,?_⟩;obtain⟨⟨v7,v8⟩,g9,h⟩:=AA h;refine⟨_,_,some [],Px g9,?_⟩;cases h;exact⟨rfl,rfl⟩
 obtain⟨⟨v10,v11⟩,g12,h⟩:=AA h;refine⟨_,_,some [],IB g12,?_⟩;obtain⟨⟨v13,v14⟩,g15,h⟩:=AA h;refine⟨_,_,some [],KO g15,?_⟩;obtain⟨⟨v16,v17⟩,g18,h⟩:=AA h;refine⟨_,_,some [],AK g18,?_⟩;revert h;refine AD (fun (v19,v20)=>⟨yr 0 0::dd 4 (y4 v19::dd 153 ([])),yB (JAI.av v20)::nn 159 ([])⟩) ?_ ?_
 ·intro k21 h;revert h;refine Ap (fun (v22,v23,v24)=>⟨yr 0 0::dd 4 (y4 v22::X::yi v23::dd 151 ([])),yB (JAI.av v24)::nn 159 ([])⟩) ?_ ?_
  ·exact wk
  rintro next25 ⟨v22,v23,v24⟩ K26 h hK27;(conv=>whnf);refine .go ?_;refine sJ h (fun h=>?_) fun h=>AB wk h;(conv=>whnf);refine .go ?_;(conv=>whnf);refine .inl (dO ?_);obtain⟨⟨v28,v29⟩,g30,h⟩:=AA h;refine⟨_,_,AK g30,.inl rfl,?_⟩;obtain⟨⟨v31,v32⟩,g33,h⟩:=AA h;refine⟨_,_,AK g33,.inl rfl,?_⟩;refine⟨_,rfl,?_⟩;obtain⟨_,g34,h⟩:=AA h;refine⟨DJ g34,_,rfl,?_⟩;obtain⟨v35,g36,h⟩:=AA h;refine⟨rfl,Af (f:=D.i) g36,?_⟩;refine⟨rfl,D.i v35,(Ai (f:=D.i) g36),?_⟩;obtain⟨⟨v37,v38⟩,g39,h⟩:=AA h;refine⟨_,_,AK g39,.inl rfl,?_⟩;refine⟨_,rfl,?_⟩;obtain⟨⟨v40,v41⟩,g42,h⟩:=AA h;refine⟨_,_,AK g42,.inl rfl,?_⟩;refine⟨by decide,_,rfl,?_⟩;refine⟨_,rfl,?_⟩;refine⟨_,Aj _,?_⟩;(conv=>whnf);refine cO ?_;revert h;refine AD (fun (v43,v44)=>⟨yr 0 0::dd 4 (y4 v22::X::yi v23::yr 9 0::dd 150 ([])),yB (JAI.av v43)::nn 8 (yB [yi v35,yi (AN (14+v37)),yO 55 D.u8 v44]::nn 45 (yR 5 1 D.u8 v44::nn 104 ([])))⟩) ?_ ?_
  ·intro k45 h;refine sJ h (fun h=>?_) fun h=>AB wk h;(conv=>whnf);refine .inl (dO ?_);obtain⟨⟨v46,v47⟩,g48,h⟩:=AA h;refine⟨_,_,AK g48,.inl rfl,?_⟩;refine⟨by decide,_,rfl,?_⟩;refine⟨_,rfl,?_⟩;refine⟨_,Aj _,?_⟩;refine⟨rfl,?_⟩;obtain⟨v49,g50,h⟩:=AA h;refine⟨rfl,AT (f:=D.u8) (g:=D.u8) g50,_,AU (f:=D.u8) g50,?_⟩;obtain⟨⟨v51,v52⟩,g53,h⟩:=AA h;refine⟨_,_,AK g53,.inl rfl,?_⟩;refine⟨by decide,_,rfl,?_⟩;refine⟨_,rfl,?_⟩;obtain⟨_,g54,h⟩:=AA h;obtain⟨v55,g56,h⟩:=AA h;refine⟨dB rfl g54 (X29 rfl) g56,D.u8 (0:UInt8),rfl,List.map D.u8 v55,cu (f:=D.u8) g56,?_⟩;(conv=>whnf);refine cO ?_;(conv=>whnf);refine .inl (dO ?_);obtain⟨⟨v57,v58⟩,g59,h⟩:=AA h;refine⟨_,_,AK g59,.inl rfl,?_⟩;refine⟨by decide,_,rfl,?_⟩;refine⟨_,Aj _,?_⟩;refine⟨rfl,?_⟩;obtain⟨v60,g61,h⟩:=AA h;refine⟨rfl,AT (f:=D.u8) (g:=D.u8) g61,_,AU (f:=D.u8) g61,?_⟩;(conv=>whnf);refine cO ?_;exact AB wk h
  rintro⟨v43,v44⟩ h;(conv=>whnf);refine .inl (dO ?_);obtain⟨⟨v62,v63⟩,g64,h⟩:=AA h;refine⟨_,_,Ib g64,.inl rfl,?_⟩;obtain⟨v65,g66,h⟩:=AA h;refine⟨rfl,AT (f:=D.u8) (g:=D.u8) g66,_,AU (f:=D.u8) g66,?_⟩;(conv=>whnf);refine cO ?_;refine⟨v22.length,X10 _,?_⟩;refine⟨_,rfl,?_⟩;obtain⟨⟨v67,v68⟩,g69,h⟩:=AA h;refine⟨_,_,some [],AK g69,?_⟩;(conv=>whnf);refine .inl (dO ?_);obtain⟨v70,g71,h⟩:=AA h;refine⟨EQ (f:=JAA.toD) g71,_,Dj (f:=JAA.toD) g71,?_⟩;obtain⟨_,g72,h⟩:=AA h;refine⟨D4 (g:=JAA.toD) g72,?_⟩;(conv=>whnf);refine .inl ?_;refine⟨rfl,?_⟩;refine⟨rfl,?_⟩;obtain⟨v73,g74,h⟩:=AA h;refine⟨rfl,AT (f:=JAA.toD) (g:=JAA.toD) g74,_,AU (f:=JAA.toD) g74,?_⟩;obtain⟨v75,g76,h⟩:=AA h;refine⟨FP (f:=JAA.toD) g76,_,FM (f:=JAA.toD) g76,?_⟩;obtain⟨v77,g78,h⟩:=AA h;refine⟨rfl,AT (f:=JAA.toD) (g:=JAA.toD) g78,_,AU (f:=JAA.toD) g78,?_⟩;(conv=>whnf);refine cO ?_;refine⟨_,rfl,?_⟩;exact hK27 _ _ wk h
 rintro⟨v19,v20⟩ h;revert h;refine AD (fun (v79,v80)=>⟨yr 0 0::dd 4 (y4 v19::dd 106 (yb v79::dd 46 ([]))),yB (JAI.av v80)::nn 159 ([])⟩) ?_ ?_
 ·intro k81 h;refine⟨v19.length,X10 _,?_⟩;refine sJ h (fun h=>?_) fun h=>AB wk h;obtain⟨⟨v82,v83⟩,g84,h⟩:=AA h;refine⟨_,_,some [],AK g84,?_⟩;exact AB wk h
 rintro⟨v79,v80⟩ h;revert h;refine AD (fun (v85,v86)=>⟨yr 0 0::dd 4 (y4 v85::dd 153 ([])),yB (JAI.av v86)::nn 159 ([])⟩) ?_ ?_
 ·intro k87 h;refine sJ h (fun h=>?_) fun h=>AB wk h;refine⟨v19.length,X10 _,?_⟩;obtain⟨⟨v88,v89⟩,g90,h⟩:=AA h;refine⟨_,_,some [],AK g90,?_⟩;(conv=>whnf);refine .inl (dO ?_);obtain⟨v91,g92,h⟩:=AA h;refine⟨EQ (f:=JAA.toD) g92,_,Dj (f:=JAA.toD) g92,?_⟩;obtain⟨_,g93,h⟩:=AA h;refine⟨D4 (g:=JAA.toD) g93,?_⟩;refine⟨_,rfl,?_⟩;obtain⟨v94,g95,h⟩:=AA h;refine⟨FP (f:=JAA.toD) g95,_,FM (f:=JAA.toD) g95,?_⟩;obtain⟨v96,g97,h⟩:=AA h;refine⟨rfl,AT (f:=JAA.toD) (g:=JAA.toD) g97,_,AU (f:=JAA.toD) g97,?_⟩;(conv=>whnf);refine cO ?_;exact AB wk h
 rintro⟨v85,v86⟩ h;obtain⟨⟨v98,v99⟩,g100,h⟩:=AA h;refine⟨_,_,some [],Ld g100,?_⟩;obtain⟨⟨v101,v102⟩,g103,h⟩:=AA h;refine⟨_,_,some [],Ib g103,?_⟩;refine⟨v101.length,X10 _,?_⟩;refine⟨by decide,_,rfl,?_⟩;refine⟨_,Aj _,?_⟩;refine⟨v101.length,X10 _,?_⟩;refine⟨_,Aj _,?_⟩;obtain⟨v104,g105,h⟩:=AA h;refine⟨rfl,AT (f:=D.u8) (g:=D.u8) g105,_,AU (f:=D.u8) g105,?_⟩;refine⟨v98.length,X10 _,?_⟩;refine⟨by decide,_,rfl,?_⟩;refine⟨_,Aj _,?_⟩;refine⟨v98.length,X10 _,?_⟩;refine⟨_,Aj _,?_⟩;refine⟨rfl,?_⟩;obtain⟨v106,g107,h⟩:=AA h;refine⟨rfl,AT (f:=D.u8) (g:=D.u8) g107,_,AU (f:=D.u8) g107,?_⟩;obtain⟨v108,g109,h⟩:=AA h;refine⟨rfl,AT (f:=D.u8) (g:=D.u8) g109,_,AU (f:=D.u8) g109,?_⟩;obtain⟨⟨v110,v111⟩,g112,h⟩:=AA h;refine⟨_,_,some [],Ib g112,?_⟩;obtain⟨v113,g114,h⟩:=AA h;refine⟨rfl,AT (f:=D.u8) (g:=D.u8) g114,_,AU (f:=D.u8) g114,?_⟩;(conv=>whnf);refine .inl ?_;(conv=>whnf);refine .inl ?_;refine⟨rfl,?_⟩;cases h;exact⟨rfl,rfl⟩
theorem Q4 {a0:List UInt8}{a1:Int}{a2:Int}{r:(List UInt8)}(h:G6 a0 a1 a2=some r):yC wl 28 [AV.d (D.l 1 D.u8 a0),AV.d (D.i a1),AV.d (D.i a2)] [] (.d (D.l 1 D.u8 r)) []:=by
 refine oK Tryz.f28 ⟨rfl,?_⟩;unfold G6 at h;obtain⟨_,g1,h⟩:=AA h;refine⟨D4 (g:=D.u8) g1,?_⟩;refine⟨a0.length,by first | exact X10 _ | rfl | (simp only[X10];omega),?_⟩;(conv=>whnf);refine .go ?_;refine sJ h ?_ ?_<;>intro h
 ·refine⟨_,Aj _,?_⟩;(conv=>whnf);refine .inl ?_;(conv=>whnf);refine .inl ?_;refine⟨rfl,?_⟩;cases h;exact⟨rfl,rfl⟩
 refine⟨a0.length,by first | exact X10 _ | rfl | (simp only[X10];omega),?_⟩;obtain⟨v2,g3,h⟩:=AA h;refine⟨_,_,some [],KP g3,?_⟩;refine⟨by decide,_,rfl,?_⟩;obtain⟨v4,g5,h⟩:=AA h;refine⟨_,_,some [],KP g5,?_⟩;(conv=>whnf);refine .go ?_;(conv=>whnf);refine .go ?_;refine sJ h ?_ ?_<;>intro h
 ·refine⟨_,Aj _,?_⟩;obtain⟨v6,g7,h⟩:=AA h;refine⟨rfl,Af (f:=D.u8) g7,?_⟩;obtain⟨v8,g9,h⟩:=AA h;have g9l:=IE g9;refine⟨rfl,rfl,D.u8 v6,(Ai (f:=D.u8) g7),?_⟩;refine⟨_,MI (f:=D.u8) g9,?_⟩;(conv=>whnf);refine .inl ?_;(conv=>whnf);refine .inl ?_;refine⟨(by first | rfl | (simp only[X10];omega)|(simp only[cpy,X10,X21,X11,X18,X17,X20];omega)),?_⟩;cases h;exact⟨rfl,rfl⟩
 (conv=>whnf);refine .go ?_;refine sJ h ?_ ?_<;>intro h
 ·(conv=>whnf);refine .inl (dO ?_);(conv=>whnf);refine .inr (.inl ?_);obtain⟨_,g10,h⟩:=AA h;have g12c:=DJ g10;refine⟨UK (f:=D.u8) g10,rfl,(Int.toNat 0),(Int.toNat v2-Int.toNat 0),rfl,rfl,?_⟩;refine⟨_,rfl,?_⟩;(conv=>whnf);refine .inr (.inl ?_);obtain⟨_,g11,h⟩:=AA h;have g14c:=DJ g11;refine⟨HY (f:=D.u8) g11,rfl,(Int.toNat (AN (v2+1))),(Int.toNat (a0.length:Int)-Int.toNat (AN (v2+1))),rfl,(by rw[X10]),?_⟩;refine⟨(by first | rfl | (simp only[X10,X21];omega)|(simp only[cpy,X10,X21,X11,X18,X17,X20];omega)),List.map D.u8 (List.take (Int.toNat (a0.length:Int)-Int.toNat (AN (v2+1))) (List.drop (Int.toNat (AN (v2+1))) a0)),Om,?_⟩;obtain⟨v12,g13,h⟩:=AA h;refine⟨rfl,rfl,(by simp only[X10];omega),eH (g:=D.u8) g13 (by omega),_,eZ (f:=D.u8) g13,?_⟩;(conv=>whnf);refine cO ?_;(conv=>whnf);refine .inl ?_;(conv=>whnf);refine .inl ?_;refine⟨rfl,?_⟩;cases h;exact⟨rfl,rfl⟩
 (conv=>whnf);refine .go ?_;refine sJ h ?_ ?_<;>intro h
 ·(conv=>whnf);refine .inl (dO ?_);(conv=>whnf);refine .inr (.inl ?_);obtain⟨_,g14,h⟩:=AA h;have g18c:=DJ g14;refine⟨UK (f:=D.u8) g14,rfl,(Int.toNat 0),(Int.toNat v2-Int.toNat 0),rfl,rfl,?_⟩;refine⟨(by first | rfl | (simp only[X10,X21];omega)|(simp only[cpy,X10,X21,X11,X18,X17,X20];omega)),List.map D.u8 (List.take (Int.toNat v2-Int.toNat 0) (List.drop (Int.toNat 0) a0)),Om,?_⟩;obtain⟨_,g15,h⟩:=AA h;refine⟨D4 (g:=D.u8) g15,?_⟩;refine⟨_,Aj _,?_⟩;refine⟨rfl,?_⟩;obtain⟨v16,g17,h⟩:=AA h;refine⟨rfl,AT (f:=D.u8) (g:=D.u8) g17,_,AU (f:=D.u8) g17,?_⟩;(conv=>whnf);refine .inr (.inl ?_);obtain⟨_,g18,h⟩:=AA h;have g24c:=DJ g18;refine⟨HY (f:=D.u8) g18,rfl,(Int.toNat v2),(Int.toNat (a0.length:Int)-Int.toNat v2),rfl,(by rw[X10]),?_⟩;refine⟨(by first | rfl | (simp only[X10,X21];omega)|(simp only[cpy,X10,X21,X11,X18,X17,X20];omega)),List.map D.u8 (List.take (Int.toNat (a0.length:Int)-Int.toNat v2) (List.drop (Int.toNat v2) a0)),Om,?_⟩;obtain⟨v19,g20,h⟩:=AA h;refine⟨rfl,AT (f:=D.u8) (g:=D.u8) g20,_,AU (f:=D.u8) g20,?_⟩;(conv=>whnf);refine cO ?_;(conv=>whnf);refine .inl ?_;(conv=>whnf);refine .inl ?_;refine⟨rfl,?_⟩;cases h;exact⟨rfl,rfl⟩
 (conv=>whnf);refine .inl ?_;refine⟨rfl,?_⟩;obtain⟨v21,g22,h⟩:=AA h;refine⟨EQ (f:=D.u8) g22,_,Dj (f:=D.u8) g22,?_⟩;cases h;exact⟨rfl,rfl⟩
theorem Ci {a0:List (List JAD)}{r:(List JAD)}(h:Ax a0=some r):yC wl 59 [AV.d (D.l 1 (D.l 4 JAD.toD) a0)] [] (AV.own 0 (List.map JAD.toD r).length) [.row 41 4 (List.map JAD.toD r) .no]:=by
 refine okx 27 Tryz.f59 (by kernel_rfl) (by kernel_rfl) ⟨rfl,?_⟩;unfold Ax at h;refine⟨a0.length,X10 _,?_⟩;revert h;refine AD (fun v1=>⟨AV.d (D.l 1 (D.l 4 JAD.toD) a0)::X::X::yi v1::dd 32 ([]),nn 63 ([])⟩) ?_ ?_
 ·intro k2 h;revert h;refine Ag 9 1 (D.l 4 JAD.toD) rfl (fun i3 v4=>⟨AV.d (D.l 1 (D.l 4 JAD.toD) a0)::X::X::yi v4::dd 5 (AV.d (D.l 1 (D.l 4 JAD.toD) a0)::yi (a0.length:Int)::yi (i3:Int)::dd 24 ([])),nn 63 ([])⟩) ?_ ?_ ?_
  ·exact wk
  ·rintro v4 K5 h;(conv=>whnf);refine .go ?_;(conv=>whnf);refine BJ CX ?_;exact AB wk h
  rintro next6 i3 x7 v4 K5 hii3 hxi3 hwi3 h hK8;(conv=>whnf);refine .go ?_;(conv=>whnf);refine BD (CN hii3) ?_;(conv=>whnf);refine .go ?_;refine⟨BE (f:=(D.l 4 JAD.toD)) hii3,(D.l 4 JAD.toD) x7,hxi3,rfl,?_⟩;refine⟨x7.length,X10 _,?_⟩;refine⟨_,rfl,?_⟩;(conv=>whnf);refine .go ?_;refine sJ h ?_ ?_<;>intro h
  ·exact nomatch h
  refine⟨_,hwi3,?_⟩;exact hK8 _ _ wk h
 rintro v1 h;revert h;refine AD (fun v9=>⟨AV.d (D.l 1 (D.l 4 JAD.toD) a0)::dd 23 (yO 35 JAD.toD v9::dd 11 ([])),nn 35 (yR 41 4 JAD.toD v9::nn 27 ([]))⟩) ?_ ?_
 ·intro k10 h;(conv=>whnf);refine inl Tryz.f112 36 (by kernel_rfl) (by kernel_rfl) ⟨rfl,?_⟩;(conv=>whnf);refine .go ?_;refine sJ h ?_ ?_<;>intro h
  ·exact nomatch h
  refine⟨_,rfl,?_⟩;refine⟨_,rfl,?_⟩;revert h;refine AD (fun v11=>⟨yO 61 JAD.toD v11::dd 26 ([]),nn 61 (yR 41 4 JAD.toD v11::N::[])⟩) ?_ ?_
  ·intro k12 h;refine sJ h (fun h=>?_) fun h=>AB wk h;(conv=>whnf);refine .inr ?_;refine⟨⟨rfl,rfl⟩,?_⟩;obtain⟨_,g13,h⟩:=AA h;refine⟨dz g13 (X29 rfl),JAD.toD (⟨(⟨false,(0:UInt64),(0:UInt64)⟩:Addr),0⟩:JAD),rfl,(List.map JAD.toD (List.replicate (Int.toNat (AN (v1-(AN (0-0))))) (⟨(⟨false,(0:UInt64),(0:UInt64)⟩:Addr),0⟩:JAD))),List.map_replicate.symm,?_⟩;(conv=>whnf);refine .inr (.inr ?_);obtain⟨v14,g15,h⟩:=AA h;refine⟨Qo (f:=JAD.toD) g15,rfl,_,Dj (f:=JAD.toD) g15,?_⟩;exact AB wk h
  rintro v11 h;exact AB (.swap 61 35 rfl rfl rfl wk) h
 rintro v9 h;refine⟨a0.length,X10 _,?_⟩;revert h;refine AD (fun v16=>⟨dd 6 (yO 35 JAD.toD v16::dd 29 ([])),nn 35 (yR 41 4 JAD.toD v16::nn 27 ([]))⟩) ?_ ?_
 ·intro k17 h;revert h;refine Ag 25 1 (D.l 4 JAD.toD) rfl (fun i18 v19=>⟨dd 6 (yO 35 JAD.toD v19::dd 18 (AV.d (D.l 1 (D.l 4 JAD.toD) a0)::yi (a0.length:Int)::yi (i18:Int)::dd 8 ([]))),nn 35 (yR 41 4 JAD.toD v19::nn 27 ([]))⟩) ?_ ?_ ?_
  ·exact wk
  ·rintro v19 K20 h;(conv=>whnf);refine .go ?_;(conv=>whnf);refine BJ CX ?_;exact AB wk h
  rintro next21 i18 x22 v19 K20 hii18 hxi18 hwi18 h hK23;(conv=>whnf);refine .go ?_;(conv=>whnf);refine BD (CN hii18) ?_;(conv=>whnf);refine .go ?_;refine⟨BE (f:=(D.l 4 JAD.toD)) hii18,(D.l 4 JAD.toD) x22,hxi18,rfl,?_⟩;obtain⟨v24,g25,h⟩:=AA h;refine⟨rfl,AT (f:=JAD.toD) (g:=JAD.toD) g25,_,AU (f:=JAD.toD) g25,?_⟩;refine⟨_,hwi18,?_⟩;exact hK23 _ _ wk h
 rintro v16 h;(conv=>whnf);refine .inl ?_;(conv=>whnf);refine .inr ?_;cases h;exact⟨rfl,rfl⟩
theorem Ih {a0:JAA}{r:Bool}(h:Bt a0=some r):yC wl 123 [AV.d (JAA.toD a0)] [] (.d (D.b r)) []:=by
 refine oK Tryz.f123 ⟨rfl,?_⟩;unfold Bt at h;revert h;refine AD (fun v1=>⟨X::X::yb v1::dd 14 ([]),nn 17 ([])⟩) ?_ ?_
 ·intro k2 h;refine sJ h ?_ ?_<;>intro h
  ·refine⟨_,rfl,?_⟩;exact AB wk h
  refine sJ h (fun h=>?_) fun h=>AB wk h;refine⟨_,rfl,?_⟩;exact AB wk h
 rintro v1 h;cases h;exact⟨rfl,rfl⟩
theorem B2 {a0:List JAA}{r:Int}(h:Au a0=some r):yC wl 147 [AV.d (D.l 3 JAA.toD a0),AV.fn 123 []] [] (.d (D.i r)) []:=by
 refine oK Tryz.f147 ⟨rfl,?_⟩;unfold Au at h;refine⟨a0.length,X10 _,?_⟩;revert h;refine AD (fun _=>⟨dd 19 ([]),nn 19 ([])⟩) ?_ ?_
 ·intro k1 h;revert h;refine Ag 6 3 JAA.toD rfl (fun i2 _=>⟨y4 a0::AV.fn 123 []::dd 4 (y4 a0::yi (a0.length:Int)::yi (i2:Int)::dd 10 ([])),nn 19 ([])⟩) ?_ ?_ ?_
  ·exact wk
  ·rintro _ K3 h;(conv=>whnf);refine .go ?_;(conv=>whnf);refine BJ CX ?_;exact AB wk h
  rintro next4 i2 x5 _ K3 hii2 hxi2 hwi2 h hK6;(conv=>whnf);refine .go ?_;(conv=>whnf);refine BD (CN hii2) ?_;(conv=>whnf);refine .go ?_;refine⟨BE (f:=JAA.toD) hii2,JAA.toD x5,hxi2,rfl,?_⟩;obtain⟨v7,g8,h⟩:=AA h;refine⟨_,_,some [],Ih g8,?_⟩;(conv=>whnf);refine .go ?_;refine sJ h ?_ ?_<;>intro h
  ·cases h;exact⟨rfl,rfl⟩
  refine⟨_,hwi2,?_⟩;exact hK6 _ _ wk h
 rintro _ h;cases h;exact⟨rfl,rfl⟩
theorem Bq {a0:List JAA}{r:Bool}(h:Ae a0=some r):yC wl 114 [AV.d (D.l 3 JAA.toD a0),AV.fn 123 []] [] (.d (D.b r)) []:=by
 refine oK Tryz.f114 ⟨rfl,?_⟩;unfold Ae at h;obtain⟨v1,g2,h⟩:=AA h;refine⟨_,_,some [],B2 g2,?_⟩;cases h;exact⟨rfl,rfl⟩
theorem JB {a0:JAH}{a1:JAE}{a2:Int}{r:Bool×JAH}(h:DG a0 a1 a2=some r):yC wl 62 [.ref 0 0,AV.d (JAE.toD a1),AV.d (D.i a2)] [.box (JAH.av a0)] (.d (D.b r.1)) [.box (JAH.av r.2)]:=by
 refine oK Tryz.f62 ⟨rfl,?_⟩;unfold DG at h;revert h;refine AD (fun (v1,v2)=>⟨dd 6 (yb v1::dd 35 ([])),yB (JAH.av v2)::nn 42 ([])⟩) ?_ ?_
 ·intro k3 h;refine sJ h (fun h=>AB wk h) fun h=>?_;obtain⟨v4,g5,h⟩:=AA h;refine⟨_,_,some [],Bq g5,?_⟩;refine sJ h (fun h=>AB wk h) fun h=>?_;obtain⟨⟨v6,v7⟩,g8,h⟩:=AA h;refine⟨_,_,some [],GY g8,?_⟩;refine sJ h (fun h=>AB wk h) fun h=>?_;obtain⟨⟨v9,v10⟩,g11,h⟩:=AA h;refine⟨_,_,some [],GY g11,?_⟩;refine sJ h (fun h=>AB wk h) fun h=>?_;refine⟨v10.new4.length,X10 _,?_⟩;exact sJ h (fun h=>AB wk h) fun h=>AB wk h
 rintro⟨v1,v2⟩ h;cases h;exact⟨rfl,rfl⟩
theorem Ot {a0:List UInt8}{r:JAG×Int}(h:FV a0=some r):yC wl 29 [AV.d (D.l 1 D.u8 a0)] [] (.tup [.d (JAG.toD r.1),.d (D.i r.2)]) []:=by
 refine oK Tryz.f29 ⟨rfl,?_⟩;unfold FV at h;obtain⟨⟨v1,v2⟩,g3,h⟩:=AA h;refine⟨_,_,some [],(Ku g3).box1 ⟨.inr ⟨_,rfl,rfl⟩,.inl rfl,.inl rfl,.inl rfl,.inr ⟨_,rfl,rfl⟩,.inr ⟨_,rfl,rfl⟩,.inr ⟨_,rfl,rfl⟩,.inr ⟨_,rfl,rfl⟩,True.intro⟩,?_⟩;(conv=>whnf);refine .go ?_;refine sJ h ?_ ?_<;>intro h
 ·cases h;exact⟨rfl,rfl⟩
 (conv=>whnf);refine .inl (dO ?_);refine⟨rfl,?_⟩;obtain⟨v4,g5,h⟩:=AA h;refine⟨_,_,Ci g5,.inr rfl,?_⟩;obtain⟨v6,g7,h⟩:=AA h;refine⟨_,_,Lj g7,.inl rfl,?_⟩;(conv=>whnf);refine cO ?_;(conv=>whnf);refine .inl (dO ?_);refine⟨rfl,?_⟩;obtain⟨v8,g9,h⟩:=AA h;refine⟨_,_,Ci g9,.inr rfl,?_⟩;(conv=>whnf);refine cO ?_;refine⟨v8.length,by first | exact X10 _ | rfl | (simp only[X10];omega),?_⟩;(conv=>whnf);refine .go ?_;refine sJ h ?_ ?_<;>intro h
 ·refine⟨rfl,?_⟩;cases h;exact⟨rfl,rfl⟩
 obtain⟨⟨v10,v11⟩,g12,h⟩:=AA h;refine⟨_,_,some [],IP g12,?_⟩;obtain⟨⟨v13,v14⟩,g15,h⟩:=AA h;refine⟨_,_,some [],JB g15,?_⟩;(conv=>whnf);refine .go ?_;refine sJ h ?_ ?_<;>intro h
 ·refine⟨rfl,?_⟩;obtain⟨v16,g17,h⟩:=AA h;refine⟨rfl,AT (f:=JAD.toD) (g:=JAD.toD) g17,_,AU (f:=JAD.toD) g17,?_⟩;refine⟨rfl,?_⟩;cases h;exact⟨rfl,rfl⟩
 refine⟨v14.new6.length,X10 _,?_⟩;revert h;refine AD (fun v18=>⟨X::X::yr 2 0::X::X::yr 5 0::yO 37 JAD.toD v8::yr 7 0::dd 68 ([]),N::N::yB JAG.zv::N::N::yB [yO 25 JAD.toD v4,AV.d (D.i v6.Origin),AV.d (D.l 2 JAC.toD v6.Path),AV.d (D.b v6.Next.V6),AV.d (D.u64 v6.Next.Hi),AV.d (D.u64 v6.Next.Lo),AV.d (D.i v6.MED),AV.d (D.i v6.Pref),AV.d (D.i v6.OTC),AV.d (D.l 2 JAB.toD v6.Communities),AV.d (D.l 3 JAF.toD v6.JAF),AV.d (D.l 3 JAA.toD v6.Other),AV.d (D.nil 4)]::N::yB (JAE.av v18)::nn 17 (yR 41 4 JAD.toD v4::nn 11 (yR 41 4 JAD.toD v8::nn 38 ([])))⟩) ?_ ?_
 ·intro k19 h;exact sJ h (fun h=>AB wk h) fun h=>AB wk h
 rintro v18 h;refine⟨rfl,?_⟩;refine⟨rfl,?_⟩;cases h;exact⟨rfl,rfl⟩
end Go.AX.Q19
end
section
namespace Go.AX.Q19
open Go Go.AX Go.Proofs
end Go.AX.Q19
end
section
namespace Go.AX.Q19
open Go Go.AX Go.Proofs
variable {wl:Prop}
theorem law19_UpdateAny_ok {a0:List UInt8}{a1:List Int}{a2:Int}{a3:Int}{r:Bool}(h:Ds a0 a1 a2 a3=some r):yC wl 6 [AV.d (D.l 1 D.u8 a0),AV.d (D.l 1 D.i a1),AV.d (D.i a2),AV.d (D.i a3)] [] (.d (D.b r)) []:=by
 refine oK Tryz.f6 ⟨rfl,?_⟩;unfold Ds at h;obtain⟨v1,g2,h⟩:=AA h;refine⟨_,_,some [],SC g2,?_⟩;(conv=>whnf);refine .go ?_;refine sJ h ?_ ?_<;>intro h
 ·obtain⟨v3,g4,h⟩:=AA h;refine⟨_,_,some [],Jz g4,?_⟩;cases h;exact⟨rfl,rfl⟩
 obtain⟨v5,g6,h⟩:=AA h;refine⟨_,_,some [23],V5 g6,?_⟩;obtain⟨⟨v7,v8⟩,g9,h⟩:=AA h;refine⟨_,_,some [],Rz g9,?_⟩;obtain⟨v10,g11,h⟩:=AA h;refine⟨_,_,some [],Q4 g11,?_⟩;refine⟨([a0,v10]:List (List UInt8)).length,by first | exact X10 _ | rfl | (simp only[X10];omega),?_⟩;revert h;refine AD (fun _=>⟨dd 136 ([]),nn 136 ([])⟩) ?_ ?_
 ·intro k12 h;revert h;refine Kx 28 44 1 .no (D.l 1 D.u8) rfl (fun i13 _=>⟨dd 28 (AV.own 28 (List.map (D.l 1 D.u8) ([a0,v10]:List (List UInt8))).length::yi (([a0,v10]:List (List UInt8)).length:Int)::yi (i13:Int)::dd 105 ([])),nn 28 (some (OB.row 44 1 (List.map (D.l 1 D.u8) ([a0,v10]:List (List UInt8))) .no)::nn 107 ([]))⟩) ?_ ?_ ?_
  ·exact wk
  ·rintro _ K14 h;(conv=>whnf);refine .go ?_;exact AB wk h
  rintro next15 i13 x16 _ K14 hii13 hxi13 hwi13 h hK17;(conv=>whnf);refine .go ?_;(conv=>whnf);refine BD (CN hii13) ?_;revert h;refine AD (fun _=>⟨dd 28 (AV.own 28 (List.map (D.l 1 D.u8) ([a0,v10]:List (List UInt8))).length::yi (([a0,v10]:List (List UInt8)).length:Int)::yi (i13:Int)::dd 105 ([])),nn 28 (some (OB.row 44 1 (List.map (D.l 1 D.u8) ([a0,v10]:List (List UInt8))) .no)::nn 107 ([]))⟩) ?_ ?_
  ·intro k18 h;refine⟨rfl,BE (f:=(D.l 1 D.u8)) hii13,?_⟩;refine⟨rfl,(D.l 1 D.u8) x16,hxi13,?_⟩;obtain⟨⟨v19,v20⟩,g21,h⟩:=AA h;refine⟨_,_,some [],Ot g21,?_⟩;(conv=>whnf);refine .go ?_;refine sJ h ?_ ?_<;>intro h
   ·revert h;refine AD (fun v22=>⟨dd 28 (AV.own 28 (List.map (D.l 1 D.u8) ([a0,v10]:List (List UInt8))).length::yi (([a0,v10]:List (List UInt8)).length:Int)::yi (i13:Int)::dd 19 (yb v22::dd 85 ([]))),nn 28 (some (OB.row 44 1 (List.map (D.l 1 D.u8) ([a0,v10]:List (List UInt8))) .no)::nn 107 ([]))⟩) ?_ ?_
    ·intro k23 h;refine⟨v19.Withdraw.length,X10 _,?_⟩;refine sJ h (fun h=>AB wk h) fun h=>?_;refine⟨v19.Announce.length,X10 _,?_⟩;exact AB wk h
    rintro v22 h;(conv=>whnf);refine .go ?_;refine sJ h (fun h=>?_) fun h=>AB wk h;cases h;exact⟨rfl,rfl⟩
   revert h;refine AD (fun v24=>⟨dd 11 (yr 11 0::dd 16 (AV.own 28 (List.map (D.l 1 D.u8) ([a0,v10]:List (List UInt8))).length::yi (([a0,v10]:List (List UInt8)).length:Int)::yi (i13:Int)::dd 41 (yb v24::dd 63 ([])))),nn 11 (yB (JAG.av v19)::nn 16 (some (OB.row 44 1 (List.map (D.l 1 D.u8) ([a0,v10]:List (List UInt8))) .no)::nn 107 ([])))⟩) ?_ ?_
   ·intro k25 h;refine sJ h ?_ ?_<;>intro h
    ·refine sJ h (fun h=>AB wk h) fun h=>?_;refine sJ h (fun h=>?_) fun h=>AB wk h;refine⟨v19.Announce.length,X10 _,?_⟩;refine sJ h (fun h=>AB wk h) fun h=>?_;refine⟨v19.Withdraw.length,X10 _,?_⟩;exact AB wk h
    refine sJ h (fun h=>?_) fun h=>AB wk h;refine⟨v19.Announce.length,X10 _,?_⟩;refine sJ h (fun h=>AB wk h) fun h=>?_;refine⟨v19.Withdraw.length,X10 _,?_⟩;exact AB wk h
   rintro v24 h;(conv=>whnf);refine .go ?_;refine sJ h ?_ ?_<;>intro h
   ·cases h;exact⟨rfl,rfl⟩
   (conv=>whnf);refine .inl (dO ?_);obtain⟨_,g26,h⟩:=AA h;refine⟨D4 (g:=JAD.toD) g26,?_⟩;obtain⟨v27,g28,h⟩:=AA h;refine⟨rfl,AT (f:=JAD.toD) (g:=JAD.toD) g28,_,AU (f:=JAD.toD) g28,?_⟩;refine⟨v27.length,by first | exact X10 _ | rfl | (simp only[X10];omega),?_⟩;(conv=>whnf);refine cO ?_;revert h;refine AD (fun _=>⟨dd 11 (yr 11 0::dd 16 (AV.own 28 (List.map (D.l 1 D.u8) ([a0,v10]:List (List UInt8))).length::yi (([a0,v10]:List (List UInt8)).length:Int)::yi (i13:Int)::dd 105 ([]))),nn 11 (yB (JAG.av v19)::nn 16 (some (OB.row 44 1 (List.map (D.l 1 D.u8) ([a0,v10]:List (List UInt8))) .no)::nn 107 ([])))⟩) ?_ ?_
   ·intro k29 h;revert h;refine Kx 75 41 4 .no JAD.toD rfl (fun i30 _=>⟨dd 11 (yr 11 0::dd 16 (AV.own 28 (List.map (D.l 1 D.u8) ([a0,v10]:List (List UInt8))).length::yi (([a0,v10]:List (List UInt8)).length:Int)::yi (i13:Int)::dd 47 (yO 75 JAD.toD v27::yi (v27.length:Int)::yi (i30:Int)::dd 55 ([])))),nn 11 (yB (JAG.av v19)::nn 16 (some (OB.row 44 1 (List.map (D.l 1 D.u8) ([a0,v10]:List (List UInt8))) .no)::nn 46 (yR 41 4 JAD.toD v27::nn 60 ([]))))⟩) ?_ ?_ ?_
    ·exact wk
    ·rintro _ K31 h;(conv=>whnf);refine .go ?_;(conv=>whnf);refine BJ CX ?_;exact AB wk h
    rintro next32 i30 x33 _ K31 hii30 hxi30 hwi30 h hK34;(conv=>whnf);refine .go ?_;(conv=>whnf);refine BD (CN hii30) ?_;(conv=>whnf);refine .go ?_;refine⟨rfl,BE (f:=JAD.toD) hii30,?_⟩;refine⟨rfl,JAD.toD x33,hxi30,?_⟩;obtain⟨v35,g36,h⟩:=AA h;refine⟨_,_,some [],Kq g36,?_⟩;(conv=>whnf);refine .go ?_;refine sJ h ?_ ?_<;>intro h
    ·cases h;exact⟨rfl,rfl⟩
    refine⟨_,hwi30,?_⟩;exact hK34 _ _ wk h
   rintro _ h;refine⟨v19.Announce.length,X10 _,?_⟩;revert h;refine AD (fun _=>⟨dd 11 (yr 11 0::dd 16 (AV.own 28 (List.map (D.l 1 D.u8) ([a0,v10]:List (List UInt8))).length::yi (([a0,v10]:List (List UInt8)).length:Int)::yi (i13:Int)::dd 105 ([]))),nn 11 (yB (JAG.av v19)::nn 16 (some (OB.row 44 1 (List.map (D.l 1 D.u8) ([a0,v10]:List (List UInt8))) .no)::nn 107 ([])))⟩) ?_ ?_
   ·intro k37 h;revert h;refine Ag 89 4 JAD.toD rfl (fun i38 _=>⟨dd 11 (yr 11 0::dd 16 (AV.own 28 (List.map (D.l 1 D.u8) ([a0,v10]:List (List UInt8))).length::yi (([a0,v10]:List (List UInt8)).length:Int)::yi (i13:Int)::dd 58 (AV.d (D.l 4 JAD.toD v19.Announce)::yi (v19.Announce.length:Int)::yi (i38:Int)::dd 44 ([])))),nn 11 (yB (JAG.av v19)::nn 16 (some (OB.row 44 1 (List.map (D.l 1 D.u8) ([a0,v10]:List (List UInt8))) .no)::nn 107 ([])))⟩) ?_ ?_ ?_
    ·exact wk
    ·rintro _ K39 h;(conv=>whnf);refine .go ?_;(conv=>whnf);refine BJ CX ?_;exact AB wk h
    rintro next40 i38 x41 _ K39 hii38 hxi38 hwi38 h hK42;(conv=>whnf);refine .go ?_;(conv=>whnf);refine BD (CN hii38) ?_;(conv=>whnf);refine .go ?_;refine⟨BE (f:=JAD.toD) hii38,JAD.toD x41,hxi38,rfl,?_⟩;revert h;refine AD (fun v43=>⟨dd 11 (yr 11 0::dd 16 (AV.own 28 (List.map (D.l 1 D.u8) ([a0,v10]:List (List UInt8))).length::yi (([a0,v10]:List (List UInt8)).length:Int)::yi (i13:Int)::dd 58 (AV.d (D.l 4 JAD.toD v19.Announce)::yi (v19.Announce.length:Int)::yi (i38:Int)::dd 29 (yb v43::dd 14 ([]))))),nn 11 (yB (JAG.av v19)::nn 16 (some (OB.row 44 1 (List.map (D.l 1 D.u8) ([a0,v10]:List (List UInt8))) .no)::nn 107 ([])))⟩) ?_ ?_
    ·intro k44 h;refine sJ h (fun h=>AB wk h) fun h=>?_;refine sJ h (fun h=>AB wk h) fun h=>?_;refine sJ h (fun h=>AB wk h) fun h=>?_;obtain⟨v45,g46,h⟩:=AA h;refine⟨_,_,some [],H2 g46,?_⟩;exact AB wk h
    rintro v43 h;(conv=>whnf);refine .go ?_;refine sJ h ?_ ?_<;>intro h
    ·cases h;exact⟨rfl,rfl⟩
    refine⟨_,hwi38,?_⟩;exact hK42 _ _ wk h
   rintro _ h;revert h;refine AD (fun v47=>⟨dd 28 (AV.own 28 (List.map (D.l 1 D.u8) ([a0,v10]:List (List UInt8))).length::yi (([a0,v10]:List (List UInt8)).length:Int)::yi (i13:Int)::dd 102 (yb v47::X::X::[])),nn 28 (some (OB.row 44 1 (List.map (D.l 1 D.u8) ([a0,v10]:List (List UInt8))) .no)::nn 107 ([]))⟩) ?_ ?_
   ·intro k48 h;(conv=>whnf);refine .inl (dO ?_);refine⟨v19.Announce.length,X10 _,?_⟩;refine sJ h ?_ ?_<;>intro h
    ·obtain⟨v49,g50,h⟩:=AA h;refine⟨_,_,Hk g50,.inl rfl,?_⟩;obtain⟨v51,g52,h⟩:=AA h;refine⟨_,_,La g52,.inl rfl,?_⟩;(conv=>whnf);refine cO ?_;exact AB wk h
    (conv=>whnf);refine cO ?_;exact AB wk h
   rintro v47 h;(conv=>whnf);refine .go ?_;refine sJ h (fun h=>?_) fun h=>AB wk h;cases h;exact⟨rfl,rfl⟩
  rintro _ h;refine⟨_,hwi13,?_⟩;exact hK17 _ _ wk h
 rintro _ h;obtain⟨v53,g54,h⟩:=AA h;refine⟨_,_,some [],Jz g54,?_⟩;cases h;exact⟨rfl,rfl⟩
end Go.AX.Q19
end
