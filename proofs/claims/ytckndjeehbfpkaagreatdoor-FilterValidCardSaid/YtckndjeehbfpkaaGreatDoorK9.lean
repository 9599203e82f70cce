/-
  Texts of one proof, packed.
-/
import Derived.Test.YtckndjeehbfpkaaGreatDoorK5
import Derived.Test.YtckndjeehbfpkaaGreatDoorK7
import Derived.Test.YtckndjeehbfpkaaGreatDoorK8
set_option linter.all false
set_option maxRecDepth 100000
set_option maxHeartbeats 4000000
open List renaming length_map→X10
section
namespace Go.AX.Q24
open Go Go.AX Go.Proofs
variable {wl:Prop}
theorem P3 {a0:JAI}{a1:JAO}{a2:JAG}{r:(List Int)}(h:Gg a0 a1 a2=some r):yC wl 44 [AV.d (JAI.toD a0),AV.d (JAO.toD a1),AV.d (JAG.toD a2)] [] (AV.own 0 (List.map D.i r).length) [.row 3 1 (List.map D.i r) .no]:=by
 refine oK Tryz.f44 ⟨rfl,?_⟩;unfold Gg at h;(conv=>whnf);refine AD h (fun _=>Ku) ?_;rintro⟨_,_⟩ h;refine AG h (fun v1=>⟨X::X::X::yr 3 0::yr 4 0::yr 5 0::X::AV.own 7 (List.map D.i []).length::dd 29 (yb v1::dd 129 ([])),N::N::N::yB (JAI.av a0)::yB (JAO.av a1)::yB (JAG.av a2)::N::some (OB.row 3 1 (List.map D.i []) .no)::nn 159 ([])⟩) ?_ ?_
 ·intro _ h;exact selC h
 rintro v1 h;refine AG h (fun v2=>⟨aQ v2,zS8 v2 a0 a1 a2⟩) ?_ ?_
 ·intro _ h;refine Ae h fun h=>?_;refine⟨rfl,?_⟩;refine apO (f:=D.i) h rfl fun _ h=>?_;exact AH h
 rintro v2 h;refine⟨a1.Nexts.length,X10 _,?_⟩;refine AG h (fun v3=>⟨X::X::X::yr 3 0::yr 4 0::yr 5 0::X::yO 7 D.i v2::X::X::yb v3::dd 156 ([]),zS8 v2 a0 a1 a2⟩) ?_ ?_
 ·intro _ h;revert h;refine AM 42 3 Addr.toD rfl (fun i4 v5=>⟨X::X::X::yr 3 0::yr 4 0::yr 5 0::X::yO 7 D.i v2::X::X::yb v5::dd 31 (AV.d (D.l 3 Addr.toD a1.Nexts)::yi (a1.Nexts.length:Int)::yi (i4:Int)::dd 122 ([])),zS8 v2 a0 a1 a2⟩) ?_ ?_ ?_
  ·exact wk
  ·rintro v5 K6 h;refine goC ?_;refine Ax BV ?_;exact AH h
  rintro _ i4 x7 v5 K6 b4 c4 e4 h p8;refine goC ?_;refine Ar (BO b4) ?_;refine goC ?_;refine⟨Aq (f:=Addr.toD) b4,Addr.toD x7,c4,rfl,?_⟩;refine AG h (fun v9=>⟨X::X::X::yr 3 0::yr 4 0::yr 5 0::X::yO 7 D.i v2::X::X::yb v9::dd 31 (AV.d (D.l 3 Addr.toD a1.Nexts)::yi (a1.Nexts.length:Int)::yi (i4:Int)::dd 122 ([])),zS8 v2 a0 a1 a2⟩) ?_ ?_
  ·intro _ h;exact selC h
  rintro v9 h;refine⟨_,e4,?_⟩;exact p8 _ _ wk h
 rintro v3 h;refine AG h (fun v10=>⟨aQ v10,zS8 v10 a0 a1 a2⟩) ?_ ?_
 ·intro _ h;refine Ae h fun h=>?_;refine⟨rfl,?_⟩;refine apO (f:=D.i) h rfl fun _ h=>?_;exact AH h
 rintro v10 h;refine .inl (dO ?_);refine Ah h (fun _=>QF) (fun _=>rfl) fun _ h=>?_;refine cO ?_;refine AG h (fun v11=>⟨aQ v11,zS8 v11 a0 a1 a2⟩) ?_ ?_
 ·intro _ h;refine Ae h fun h=>?_;refine⟨rfl,?_⟩;refine apO (f:=D.i) h rfl fun _ h=>?_;exact AH h
 rintro v11 h;refine AD h (fun _=>NU) fun _ h=>?_;refine AG h (fun v12=>⟨aQ v12,zS8 v12 a0 a1 a2⟩) ?_ ?_
 ·intro _ h;refine Ae h fun h=>?_;refine⟨rfl,?_⟩;refine apO (f:=D.i) h rfl fun _ h=>?_;exact AH h
 rintro v12 h;refine⟨a2.Path.length,X10 _,?_⟩;refine AG h (fun v13=>⟨X::X::X::yr 3 0::yr 4 0::yr 5 0::X::yO 7 D.i v12::dd 5 (yb v13::yb false::yb false::dd 151 ([])),zS8 v12 a0 a1 a2⟩) ?_ ?_
 ·intro _ h;revert h;refine AM 79 2 JAE.toD rfl (fun i14 v15=>⟨eJ v15 false (a2.Path.length:Int) (i14:Int) v12 a2.Path,zS8 v12 a0 a1 a2⟩) ?_ ?_ ?_
  ·exact wk
  ·rintro v15 K16 h;refine goC ?_;refine Ax BV ?_;exact AH h
  rintro _ i14 x17 v15 K16 b14 c14 e14 h p18;refine goC ?_;refine Ar (BO b14) ?_;refine goC ?_;refine⟨Aq (f:=JAE.toD) b14,JAE.toD x17,c14,rfl,?_⟩;refine AG h (fun v19=>⟨eJ v19 false (a2.Path.length:Int) (i14:Int) v12 a2.Path,zS8 v12 a0 a1 a2⟩) ?_ ?_
  ·intro _ h;exact selC h
  rintro v19 h;refine⟨_,e14,?_⟩;exact p18 _ _ wk h
 rintro v13 h;refine AD h (fun _=>Ir) fun v20 h=>?_;refine⟨v20.length,X10 _,?_⟩;refine AG h (fun (v21,v22)=>⟨dd 4 (yr 4 0::yr 5 0::X::yO 7 D.i v12::dd 5 (yb v13::yb v21::yb v22::dd 151 ([]))),bH v12 a1 a2⟩) ?_ ?_
 ·intro _ h;revert h;refine AM 93 1 D.i rfl (fun i23 (v24,v25)=>⟨bw v13 v24 v25 (v20.length:Int) (i23:Int) v20 v12,zS8 v12 a0 a1 a2⟩) ?_ ?_ ?_
  ·exact wk
  ·rintro⟨v24,v25⟩ K26 h;refine goC ?_;refine Ax BV ?_;exact AH h
  rintro _ i23 x27 ⟨v24,v25⟩ K26 b23 c23 e23 h p28;refine goC ?_;refine Ar (BO b23) ?_;refine AG h (fun (v29,v30)=>⟨bw v13 v29 v30 (v20.length:Int) (i23:Int) v20 v12,zS8 v12 a0 a1 a2⟩) ?_ ?_
  ·intro _ h;refine⟨Aq (f:=D.i) b23,D.i x27,c23,rfl,?_⟩;refine⟨a0.Private.length,X10 _,?_⟩;refine AG h (fun v31=>⟨X::X::X::yr 3 0::yr 4 0::yr 5 0::X::yO 7 D.i v12::dd 5 (yb v13::yb v31::yb v25::X::X::X::yi x27::dd 73 (y0 v20::yi (v20.length:Int)::yi (i23:Int)::dd 71 ([]))),zS8 v12 a0 a1 a2⟩) ?_ ?_
   ·intro _ h;revert h;refine AM 100 2 JAN.toD rfl (fun i32 v33=>⟨dl v13 v33 v25 x27 (v20.length:Int) (i23:Int) (a0.Private.length:Int) (i32:Int) v20 v12 a0.Private,zS8 v12 a0 a1 a2⟩) ?_ ?_ ?_
    ·exact wk
    ·rintro v33 K34 h;refine goC ?_;refine Ax BV ?_;exact AH h
    rintro _ i32 x35 v33 K34 b32 c32 e32 h p36;refine goC ?_;refine Ar (BO b32) ?_;refine goC ?_;refine⟨Aq (f:=JAN.toD) b32,JAN.toD x35,c32,rfl,?_⟩;refine AG h (fun v37=>⟨dl v13 v37 v25 x27 (v20.length:Int) (i23:Int) (a0.Private.length:Int) (i32:Int) v20 v12 a0.Private,zS8 v12 a0 a1 a2⟩) ?_ ?_
    ·intro _ h;refine A6 h fun h=>?_;exact selC h
    rintro v37 h;refine⟨_,e32,?_⟩;exact p36 _ _ wk h
   rintro v31 h;refine AG h (fun v38=>⟨bw v13 v31 v38 (v20.length:Int) (i23:Int) v20 v12,zS8 v12 a0 a1 a2⟩) ?_ ?_
   ·intro _ h;refine A6 h fun h=>?_;refine Ae h fun h=>?_;refine AD h (fun _=>N9) fun _ h=>?_;refine Ae h fun h=>?_;refine AD h (fun _=>N9) fun _ h=>?_;exact AH h
   rintro v38 h;exact AH h
  rintro⟨v29,v30⟩ h;refine⟨_,e23,?_⟩;exact p28 _ _ wk h
 rintro⟨v21,v22⟩ h;refine AG h (fun v39=>⟨dd 4 (yr 4 0::yr 5 0::X::yO 7 D.i v39::dd 6 (yb v21::yb v22::dd 151 ([]))),bH v39 a1 a2⟩) ?_ ?_
 ·intro _ h;refine Ae h fun h=>?_;refine⟨rfl,?_⟩;refine apO (f:=D.i) h rfl fun _ h=>?_;exact AH h
 rintro v39 h;refine AG h (fun v40=>⟨dd 4 (yr 4 0::yr 5 0::X::yO 7 D.i v40::dd 7 (yb v22::dd 151 ([]))),bH v40 a1 a2⟩) ?_ ?_
 ·intro _ h;refine Ae h fun h=>?_;refine⟨rfl,?_⟩;refine apO (f:=D.i) h rfl fun _ h=>?_;exact AH h
 rintro v40 h;refine AG h (fun v41=>⟨dd 4 (yr 4 0::yr 5 0::X::yO 7 D.i v41::dd 159 ([])),bH v41 a1 a2⟩) ?_ ?_
 ·intro _ h;refine Ae h fun h=>?_;refine⟨rfl,?_⟩;refine apO (f:=D.i) h rfl fun _ h=>?_;exact AH h
 rintro v41 h;refine AD h (fun _=>PH) ?_;rintro⟨_,_⟩ h;refine AG h (fun v42=>⟨dd 7 (yO 7 D.i v42::dd 159 ([])),nn 7 (yR 3 1 D.i v42::nn 159 ([]))⟩) ?_ ?_
 ·intro _ h;refine Ae h fun h=>?_;refine⟨rfl,?_⟩;refine apO (f:=D.i) h rfl fun _ h=>?_;exact AH h
 rintro v42 h;(conv=>whnf);refine .inl ?_;(conv=>whnf);refine .inr ?_;exact fin h
theorem SE {a0:JAI}{a1:JAK}{r:Bool}(h:IP a0 a1=some r):yC wl 45 [AV.d (JAI.toD a0),AV.d (JAK.toD a1)] [] (.d (D.b r)) []:=by
 refine oK Tryz.f45 ⟨rfl,?_⟩;unfold IP at h;(conv=>whnf);refine .inl (dO ?_);refine cO ?_;refine AG h (fun (v1,v2,v3)=>⟨X::X::X::yr 3 0::X::yi v1::yi v2::yi v3::dd 36 ([]),N::N::N::yB (JAK.av a1)::nn 40 ([])⟩) ?_ ?_
 ·intro _ h;refine Ae h fun h=>?_;refine .inl (dO ?_);refine cO ?_;exact AH h
 rintro⟨v1,v2,v3⟩ h;refine AD h (fun _=>HI) fun _ h=>?_;refine goC ?_;refine AP h ?_ ?_<;>intro h
 ·exact fin h
 refine AG h (fun v4=>⟨dd 4 (yb v4::dd 39 ([])),nn 44 ([])⟩) ?_ ?_
 ·intro _ h;exact selC h
 rintro v4 h;exact fin h
theorem MC {a0:ByteArray}{r:Bool}(h:F6 a0=some r):yC wl 97 [AV.d (D.s a0)] [] (.d (D.b r)) []:=by
 refine oK Tryz.f97 ⟨rfl,?_⟩;unfold F6 at h;(conv=>whnf);refine AG h (fun _=>⟨ys a0::dd 52 ([]),nn 53 ([])⟩) ?_ ?_
 ·intro _ h;revert h;refine BZ (fun v1=>⟨ys a0::dd 5 (yi (a0.size:Int)::yi v1::dd 45 ([])),nn 53 ([])⟩) ?_ ?_
  ·exact wk
  rintro _ v1 _ h p2;refine goC ?_;refine Ae h fun h=>?_;refine goC ?_;obtain⟨v3,g4,h⟩:=AW h;refine⟨bu g4,v3,bJ g4,?_⟩;refine AG h (fun v5=>⟨ys a0::dd 5 (yi (a0.size:Int)::yi v1::dd 35 (yb v5::dd 9 ([]))),nn 53 ([])⟩) ?_ ?_
  ·intro _ h;refine AP h ?_ ?_<;>intro h
   ·refine A6 h fun h=>?_;refine AP h ?_ ?_<;>intro h
    ·refine A6 h fun h=>?_;refine AP h ?_ ?_<;>intro h
     ·refine A6 h fun h=>?_;exact selC h
     exact selC h
    refine AP h ?_ ?_<;>intro h
    ·refine A6 h fun h=>?_;exact selC h
    exact selC h
   refine AP h ?_ ?_<;>intro h
   ·refine A6 h fun h=>?_;refine AP h ?_ ?_<;>intro h
    ·refine A6 h fun h=>?_;exact selC h
    exact selC h
   refine AP h ?_ ?_<;>intro h
   ·refine A6 h fun h=>?_;exact selC h
   exact selC h
  rintro v5 h;refine goC ?_;refine AP h ?_ ?_<;>intro h
  ·exact fin h
  refine⟨_,rfl,?_⟩;exact p2 _ _ wk h
 rintro _ h;refine AG h (fun v6=>⟨X::X::yb v6::dd 50 ([]),nn 53 ([])⟩) ?_ ?_
 ·intro _ h;exact selC h
 rintro v6 h;exact fin h
theorem LI {a0:JAB}{r:Bool}(h:CB a0=some r):yC wl 98 [AV.d (JAB.toD a0)] [] (.d (D.b r)) []:=by
 refine oK Tryz.f98 ⟨rfl,?_⟩;unfold CB at h;(conv=>whnf);refine AG h (fun v1=>⟨X::yr 1 0::X::yi v1::dd 31 ([]),N::yB (JAB.av a0)::nn 33 ([])⟩) ?_ ?_
 ·intro _ h;exact selC h
 rintro v1 h;refine AG h (fun v2=>⟨X::X::yb v2::dd 32 ([]),nn 35 ([])⟩) ?_ ?_
 ·intro _ h;refine AD h (fun _=>FO) fun _ h=>?_;refine Ae h fun h=>?_;refine Ae h fun h=>?_;refine Ae h fun h=>?_;exact selC h
 rintro v2 h;exact fin h
theorem IJ {a0:JAD}{r:Bool}(h:FM a0=some r):yC wl 64 [AV.d (JAD.toD a0)] [] (.d (D.b r)) []:=by
 refine oK Tryz.f64 ⟨rfl,?_⟩;unfold FM at h;refine⟨a0.Sets.length,X10 _,?_⟩;refine AG h (fun _=>⟨X::yr 1 0::dd 90 ([]),N::yB (JAD.av a0)::nn 90 ([])⟩) ?_ ?_
 ·intro _ h;revert h;refine AM 14 3 Set.toD rfl (fun i1 v2=>⟨bv (a0.Sets.length:Int) (i1:Int) a0.Sets,N::yB (JAD.av a0)::nn 10 (some (OB.map 9 4 (Av D.s D.b v2))::nn 79 ([]))⟩) ?_ ?_ ?_
  ·exact wk
  ·rintro v2 K3 h;refine goC ?_;refine Ax BV ?_;exact AH h
  rintro _ i1 x4 v2 K3 b1 c1 e1 h p5;refine goC ?_;refine Ar (BO b1) ?_;refine AG h (fun _=>⟨bv (a0.Sets.length:Int) (i1:Int) a0.Sets,N::yB (JAD.av a0)::nn 10 (some (OB.map 9 4 (Av D.s D.b (CW v2 x4.Name true)))::nn 79 ([]))⟩) ?_ ?_
  ·intro _ h;refine⟨Aq (f:=Set.toD) b1,Set.toD x4,c1,rfl,?_⟩;refine AG h (fun v6=>⟨X::yr 1 0::X::AV.mp 12::X::yr 5 0::dd 8 (AV.d (D.l 3 Set.toD a0.Sets)::yi (a0.Sets.length:Int)::yi (i1:Int)::dd 24 (yb v6::dd 50 ([]))),N::yB (JAD.av a0)::N::N::N::yB (Set.av x4)::nn 6 (some (OB.map 9 4 (Av D.s D.b v2))::nn 79 ([]))⟩) ?_ ?_
   ·intro _ h;refine AD h (fun _=>MC) fun _ h=>?_;refine A6 h fun h=>?_;obtain⟨v7,g8,h⟩:=AW h;refine⟨_,Gz (ek:=D.s) (ev:=D.b) (l:=v2) (k:=x4.Name) Ff,D.b v7,JX (z:=false) rfl g8,_,rfl,?_⟩;refine A6 h fun h=>?_;refine⟨x4.ASNs.length,X10 _,?_⟩;refine A6 h fun h=>?_;refine⟨x4.Sets.length,X10 _,?_⟩;exact AH h
   rintro v6 h;refine goC ?_;refine AP h ?_ ?_<;>intro h
   ·exact fin h
   refine⟨_,GN (ek:=D.s) (ev:=D.b) (l:=v2) (k:=x4.Name) (v:=true) Ff,?_⟩;refine⟨x4.ASNs.length,X10 _,?_⟩;refine AG h (fun _=>⟨X::yr 1 0::X::AV.mp 12::X::yr 5 0::dd 8 (AV.d (D.l 3 Set.toD a0.Sets)::yi (a0.Sets.length:Int)::yi (i1:Int)::dd 75 ([])),N::yB (JAD.av a0)::N::N::N::yB (Set.av x4)::nn 6 (some (OB.map 9 4 (Av D.s D.b (CW v2 x4.Name true)))::nn 79 ([]))⟩) ?_ ?_
   ·intro _ h;revert h;refine AM 46 1 D.i rfl (fun i9 _=>⟨X::yr 1 0::X::AV.mp 12::X::yr 5 0::dd 8 (AV.d (D.l 3 Set.toD a0.Sets)::yi (a0.Sets.length:Int)::yi (i1:Int)::dd 29 (AV.d (D.l 1 D.i x4.ASNs)::yi (x4.ASNs.length:Int)::yi (i9:Int)::dd 43 ([]))),N::yB (JAD.av a0)::N::N::N::yB (Set.av x4)::nn 6 (some (OB.map 9 4 (Av D.s D.b (CW v2 x4.Name true)))::nn 79 ([]))⟩) ?_ ?_ ?_
    ·exact wk
    ·rintro _ K10 h;refine goC ?_;refine Ax BV ?_;exact AH h
    rintro _ i9 x11 _ K10 b9 c9 e9 h p12;refine goC ?_;refine Ar (BO b9) ?_;refine goC ?_;refine⟨Aq (f:=D.i) b9,D.i x11,c9,rfl,?_⟩;refine AG h (fun v13=>⟨X::yr 1 0::X::AV.mp 12::X::yr 5 0::dd 8 (AV.d (D.l 3 Set.toD a0.Sets)::yi (a0.Sets.length:Int)::yi (i1:Int)::dd 29 (AV.d (D.l 1 D.i x4.ASNs)::yi (x4.ASNs.length:Int)::yi (i9:Int)::dd 8 (yb v13::dd 34 ([])))),N::yB (JAD.av a0)::N::N::N::yB (Set.av x4)::nn 6 (some (OB.map 9 4 (Av D.s D.b (CW v2 x4.Name true)))::nn 79 ([]))⟩) ?_ ?_
    ·intro _ h;exact selC h
    rintro v13 h;refine goC ?_;refine AP h ?_ ?_<;>intro h
    ·exact fin h
    refine⟨_,e9,?_⟩;exact p12 _ _ wk h
   rintro _ h;refine⟨x4.Sets.length,X10 _,?_⟩;refine AG h (fun _=>⟨bv (a0.Sets.length:Int) (i1:Int) a0.Sets,N::yB (JAD.av a0)::nn 10 (some (OB.map 9 4 (Av D.s D.b (CW v2 x4.Name true)))::nn 79 ([]))⟩) ?_ ?_
   ·intro _ h;revert h;refine AM 60 1 D.s rfl (fun i14 _=>⟨X::yr 1 0::X::AV.mp 12::dd 10 (AV.d (D.l 3 Set.toD a0.Sets)::yi (a0.Sets.length:Int)::yi (i1:Int)::dd 43 (AV.d (D.l 1 D.s x4.Sets)::yi (x4.Sets.length:Int)::yi (i14:Int)::dd 29 ([]))),N::yB (JAD.av a0)::nn 10 (some (OB.map 9 4 (Av D.s D.b (CW v2 x4.Name true)))::nn 79 ([]))⟩) ?_ ?_ ?_
    ·exact wk
    ·rintro _ K15 h;refine goC ?_;refine Ax BV ?_;exact AH h
    rintro _ i14 x16 _ K15 b14 c14 e14 h p17;refine goC ?_;refine Ar (BO b14) ?_;refine goC ?_;refine⟨Aq (f:=D.s) b14,D.s x16,c14,rfl,?_⟩;refine AD h (fun _=>MC) fun _ h=>?_;refine goC ?_;refine AP h ?_ ?_<;>intro h
    ·exact fin h
    refine⟨_,e14,?_⟩;exact p17 _ _ wk h
   rintro _ h;exact AH h
  rintro _ h;refine⟨_,e1,?_⟩;exact p5 _ _ wk h
 rintro _ h;refine⟨a0.Objects.length,X10 _,?_⟩;refine AG h (fun _=>⟨X::yr 1 0::dd 90 ([]),N::yB (JAD.av a0)::nn 90 ([])⟩) ?_ ?_
 ·intro _ h;revert h;refine AM 72 6 JAB.toD rfl (fun i18 _=>⟨X::yr 1 0::dd 70 (AV.d (D.l 6 JAB.toD a0.Objects)::yi (a0.Objects.length:Int)::yi (i18:Int)::dd 17 ([])),N::yB (JAD.av a0)::nn 90 ([])⟩) ?_ ?_ ?_
  ·exact wk
  ·rintro _ K19 h;refine goC ?_;refine Ax BV ?_;exact AH h
  rintro _ i18 x20 _ K19 b18 c18 e18 h p21;refine goC ?_;refine Ar (BO b18) ?_;refine goC ?_;refine⟨Aq (f:=JAB.toD) b18,JAB.toD x20,c18,rfl,?_⟩;refine AD h (fun _=>LI) fun _ h=>?_;refine goC ?_;refine AP h ?_ ?_<;>intro h
  ·exact fin h
  refine⟨_,e18,?_⟩;exact p21 _ _ wk h
 rintro _ h;refine AG h (fun v22=>⟨X::X::yb v22::dd 89 ([]),nn 92 ([])⟩) ?_ ?_
 ·intro _ h;refine⟨a0.Sets.length,X10 _,?_⟩;refine Ae h fun h=>?_;refine⟨a0.Objects.length,X10 _,?_⟩;exact AH h
 rintro v22 h;exact fin h
theorem MK {a0:JAD}{a1:ByteArray}{r:Set×Bool}(h:GE a0 a1=some r):yC wl 135 [AV.d (JAD.toD a0),AV.d (D.s a1)] [] (.tup [.d (Set.toD r.1),.d (D.b r.2)]) []:=by
 refine oK Tryz.f135 ⟨rfl,?_⟩;unfold GE at h;refine⟨a0.Sets.length,X10 _,?_⟩;refine AG h (fun _=>⟨dd 4 (yr 4 0::dd 17 ([])),nn 4 (yB Set.zv::nn 17 ([]))⟩) ?_ ?_
 ·intro _ h;revert h;refine AM 9 3 Set.toD rfl (fun i1 _=>⟨X::ys a1::X::X::yr 4 0::dd 4 (AV.d (D.l 3 Set.toD a0.Sets)::yi (a0.Sets.length:Int)::yi (i1:Int)::dd 10 ([])),nn 4 (yB Set.zv::nn 17 ([]))⟩) ?_ ?_ ?_
  ·exact wk
  ·rintro _ K2 h;refine goC ?_;refine Ax BV ?_;exact AH h
  rintro _ i1 x3 _ K2 b1 c1 e1 h p4;refine goC ?_;refine Ar (BO b1) ?_;refine goC ?_;refine⟨Aq (f:=Set.toD) b1,Set.toD x3,c1,rfl,?_⟩;refine goC ?_;refine AP h ?_ ?_<;>intro h
  ·exact fin h
  refine⟨_,e1,?_⟩;exact p4 _ _ wk h
 rintro _ h;exact fin h
theorem L0 {a0:List ByteArray}{a1:ByteArray}{r:(List ByteArray)}(h:CX a0 a1=some r):yC wl 136 [AV.d (D.l 1 D.s a0),AV.d (D.s a1)] [] (.d (D.l 1 D.s r)) []:=by
 refine oK Tryz.f136 ⟨rfl,?_⟩;unfold CX at h;(conv=>whnf);refine AG h (fun v1=>⟨y7 a0::ys a1::X::X::X::yi v1::dd 38 ([]),nn 44 ([])⟩) ?_ ?_
 ·intro _ h;revert h;refine BZ (fun v2=>⟨y7 a0::ys a1::X::X::X::yi v2::dd 38 ([]),nn 44 ([])⟩) ?_ ?_
  ·exact wk
  rintro _ v2 _ h p3;refine AG h (fun v4=>⟨y7 a0::ys a1::X::X::X::yi v2::dd 11 (yb v4::dd 26 ([])),nn 44 ([])⟩) ?_ ?_
  ·intro _ h;refine⟨a0.length,X10 _,?_⟩;refine Ae h fun h=>?_;(conv=>whnf);refine Cd h (fun _=>rfl) fun _ h=>?_;exact AH h
  rintro v4 h;refine goC ?_;refine Ae h fun h=>?_;refine goC ?_;refine⟨_,rfl,?_⟩;exact p3 _ _ wk h
 rintro v1 h;refine AG h (fun v5=>⟨y7 a0::ys a1::X::X::X::yi v1::dd 25 (yb v5::dd 12 ([])),nn 44 ([])⟩) ?_ ?_
 ·intro _ h;refine⟨a0.length,X10 _,?_⟩;refine Ae h fun h=>?_;(conv=>whnf);refine Cd h (fun _=>rfl) fun _ h=>?_;exact AH h
 rintro v5 h;refine goC ?_;refine AP h ?_ ?_<;>intro h
 ·exact fin h
 refine .inl (dO ?_);(conv=>whnf);refine ce (f:=D.s) h fun _ h=>?_;refine apN (f:=D.s) h fun _ h=>?_;refine⟨rfl,?_⟩;refine apO (f:=D.s) h rfl fun _ h=>?_;(conv=>whnf);refine cz (f:=D.s) h fun _ h=>?_;refine apO (f:=D.s) h rfl fun _ h=>?_;refine cO ?_;(conv=>whnf);refine .inl ?_;(conv=>whnf);refine .inl ?_;refine⟨rfl,?_⟩;exact fin h
theorem P0 {a0:List Int}{a1:Int}{r:(List Int)}(h:Eo a0 a1=some r):yC wl 137 [AV.d (D.l 1 D.i a0),AV.d (D.i a1)] [] (.d (D.l 1 D.i r)) []:=by
 refine oK Tryz.f137 ⟨rfl,?_⟩;unfold Eo at h;(conv=>whnf);refine AG h (fun v1=>⟨y0 a0::yi a1::X::X::X::yi v1::dd 38 ([]),nn 44 ([])⟩) ?_ ?_
 ·intro _ h;revert h;refine BZ (fun v2=>⟨y0 a0::yi a1::X::X::X::yi v2::dd 38 ([]),nn 44 ([])⟩) ?_ ?_
  ·exact wk
  rintro _ v2 _ h p3;refine AG h (fun v4=>⟨y0 a0::yi a1::X::X::X::yi v2::dd 11 (yb v4::dd 26 ([])),nn 44 ([])⟩) ?_ ?_
  ·intro _ h;refine⟨a0.length,X10 _,?_⟩;refine Ae h fun h=>?_;(conv=>whnf);refine Cd h (fun _=>rfl) fun _ h=>?_;exact AH h
  rintro v4 h;refine goC ?_;refine Ae h fun h=>?_;refine goC ?_;refine⟨_,rfl,?_⟩;exact p3 _ _ wk h
 rintro v1 h;refine AG h (fun v5=>⟨y0 a0::yi a1::X::X::X::yi v1::dd 25 (yb v5::dd 12 ([])),nn 44 ([])⟩) ?_ ?_
 ·intro _ h;refine⟨a0.length,X10 _,?_⟩;refine Ae h fun h=>?_;(conv=>whnf);refine Cd h (fun _=>rfl) fun _ h=>?_;exact AH h
 rintro v5 h;refine goC ?_;refine AP h ?_ ?_<;>intro h
 ·exact fin h
 refine .inl (dO ?_);(conv=>whnf);refine ce (f:=D.i) h fun _ h=>?_;refine apN (f:=D.i) h fun _ h=>?_;refine⟨rfl,?_⟩;refine apO (f:=D.i) h rfl fun _ h=>?_;(conv=>whnf);refine cz (f:=D.i) h fun _ h=>?_;refine apO (f:=D.i) h rfl fun _ h=>?_;refine cO ?_;(conv=>whnf);refine .inl ?_;(conv=>whnf);refine .inl ?_;refine⟨rfl,?_⟩;exact fin h
theorem QD {a0:JAD}{a1:ByteArray}{r:(List Int)×(List ByteArray)×Int}(h:Ek a0 a1=some r):yC wl 84 [AV.d (JAD.toD a0),AV.d (D.s a1)] [] (.tup [.d (D.l 1 D.i r.1),.d (D.l 1 D.s r.2.1),.d (D.i r.2.2)]) []:=by
 refine oK Tryz.f84 ⟨rfl,?_⟩;unfold Ek at h;(conv=>whnf);refine AD h (fun _=>IJ) fun _ h=>?_;refine goC ?_;refine AP h ?_ ?_<;>intro h
 ·exact fin h
 refine AD h (fun _=>MK) ?_;rintro⟨_,_⟩ h;refine goC ?_;refine AP h ?_ ?_<;>intro h
 ·exact fin h
 refine⟨_,GN (ek:=D.s) (ev:=D.b) (l:=[]) (k:=a1) (v:=true) Ff,?_⟩;refine AG h (fun (v1,v2)=>⟨dd 9 (y0 v1::y7 v2::dd 75 ([])),nn 86 ([])⟩) ?_ ?_
 ·intro _ h;revert h;refine BZ (fun (v3,v4,v5,v6)=>⟨X::X::yr 2 0::dd 6 (y0 v3::y7 v4::AV.mp 30::yO 34 D.s v6::dd 73 ([])),N::N::yB (JAD.av a0)::nn 27 (some (OB.map 9 4 (Av D.s D.b v5))::N::N::N::yR 9 1 D.s v6::nn 51 ([]))⟩) ?_ ?_
  ·exact wk
  rintro _ ⟨v3,v4,v5,v6⟩ _ h p7;refine⟨v6.length,HK,?_⟩;refine goC ?_;refine Ae h fun h=>?_;refine AG h (fun (v8,v9,v10,v11)=>⟨X::X::yr 2 0::dd 6 (y0 v8::y7 v9::AV.mp 30::yO 54 D.s v11::dd 73 ([])),N::N::yB (JAD.av a0)::nn 27 (some (OB.map 9 4 (Av D.s D.b v10))::nn 23 (yR 9 1 D.s v11::nn 31 ([])))⟩) ?_ ?_
  ·intro _ h;refine .inl (dO ?_);obtain⟨v12,g13,h⟩:=AW h;refine⟨rfl,Ed (f:=D.s) g13,?_⟩;refine⟨rfl,D.s v12,(EZ (f:=D.s) g13),?_⟩;refine Ah h (fun _=>MK) (fun _=>rfl) ?_;rintro⟨v14,_⟩ h;refine cO ?_;refine AG h (fun v15=>⟨X::X::yr 2 0::dd 6 (y0 v3::y7 v15::AV.mp 30::yO 34 D.s v6::yr 13 0::dd 72 ([])),N::N::yB (JAD.av a0)::nn 10 (yB (Set.av v14)::nn 16 (some (OB.map 9 4 (Av D.s D.b v5))::N::N::N::yR 9 1 D.s v6::nn 51 ([])))⟩) ?_ ?_
   ·intro _ h;refine Ae h fun h=>?_;obtain⟨v16,g17,h⟩:=AW h;refine⟨rfl,Ed (f:=D.s) g17,?_⟩;refine⟨rfl,D.s v16,(EZ (f:=D.s) g17),?_⟩;refine AD h (fun _=>L0) fun _ h=>?_;exact AH h
   rintro v15 h;(conv=>whnf);refine .inr (.inr ?_);obtain⟨v18,g19,h⟩:=AW h;refine⟨XR (f:=D.s) g19,rfl,_,UQ (f:=D.s) g19,?_⟩;refine⟨v14.ASNs.length,X10 _,?_⟩;refine AG h (fun v20=>⟨X::X::yr 2 0::dd 6 (y0 v20::y7 v15::AV.mp 30::yO 54 D.s v18::yr 13 0::dd 72 ([])),N::N::yB (JAD.av a0)::nn 10 (yB (Set.av v14)::nn 16 (some (OB.map 9 4 (Av D.s D.b v5))::nn 23 (yR 9 1 D.s v18::nn 31 ([]))))⟩) ?_ ?_
   ·intro _ h;revert h;refine AM 56 1 D.i rfl (fun i21 v22=>⟨X::X::yr 2 0::dd 6 (y0 v22::y7 v15::AV.mp 30::yO 54 D.s v18::yr 13 0::dd 42 (AV.d (D.l 1 D.i v14.ASNs)::yi (v14.ASNs.length:Int)::yi (i21:Int)::dd 27 ([]))),N::N::yB (JAD.av a0)::nn 10 (yB (Set.av v14)::nn 16 (some (OB.map 9 4 (Av D.s D.b v5))::nn 23 (yR 9 1 D.s v18::nn 31 ([]))))⟩) ?_ ?_ ?_
    ·exact wk
    ·rintro v22 K23 h;refine goC ?_;refine Ax BV ?_;exact AH h
    rintro _ i21 x24 v22 K23 b21 c21 e21 h p25;refine goC ?_;refine Ar (BO b21) ?_;refine goC ?_;refine⟨Aq (f:=D.i) b21,D.i x24,c21,rfl,?_⟩;refine AD h (fun _=>P0) fun _ h=>?_;refine⟨_,e21,?_⟩;exact p25 _ _ wk h
   rintro v20 h;refine⟨v14.Sets.length,X10 _,?_⟩;refine AG h (fun (v26,v27)=>⟨X::X::yr 2 0::dd 6 (y0 v20::y7 v15::AV.mp 30::yO 54 D.s v27::dd 73 ([])),N::N::yB (JAD.av a0)::nn 27 (some (OB.map 9 4 (Av D.s D.b v26))::nn 23 (yR 9 1 D.s v27::nn 31 ([])))⟩) ?_ ?_
   ·intro _ h;revert h;refine AM 67 1 D.s rfl (fun i28 (v29,v30)=>⟨X::X::yr 2 0::dd 6 (y0 v20::y7 v15::AV.mp 30::yO 54 D.s v30::dd 54 (AV.d (D.l 1 D.s v14.Sets)::yi (v14.Sets.length:Int)::yi (i28:Int)::dd 16 ([]))),N::N::yB (JAD.av a0)::nn 27 (some (OB.map 9 4 (Av D.s D.b v29))::nn 23 (yR 9 1 D.s v30::nn 31 ([])))⟩) ?_ ?_ ?_
    ·exact wk
    ·rintro⟨v29,v30⟩ K31 h;refine goC ?_;refine Ax BV ?_;exact AH h
    rintro _ i28 x32 ⟨v29,v30⟩ K31 b28 c28 e28 h p33;refine goC ?_;refine Ar (BO b28) ?_;refine goC ?_;refine⟨Aq (f:=D.s) b28,D.s x32,c28,rfl,?_⟩;obtain⟨v34,g35,h⟩:=AW h;refine⟨_,Gz (ek:=D.s) (ev:=D.b) (l:=v29) (k:=x32) Ff,D.b v34,JX (z:=false) rfl g35,_,rfl,?_⟩;refine AG h (fun (v36,v37)=>⟨X::X::yr 2 0::dd 6 (y0 v20::y7 v15::AV.mp 30::yO 54 D.s v37::dd 54 (AV.d (D.l 1 D.s v14.Sets)::yi (v14.Sets.length:Int)::yi (i28:Int)::dd 16 ([]))),N::N::yB (JAD.av a0)::nn 27 (some (OB.map 9 4 (Av D.s D.b v36))::nn 23 (yR 9 1 D.s v37::nn 31 ([])))⟩) ?_ ?_
    ·intro _ h;refine Ae h fun h=>?_;refine⟨_,GN (ek:=D.s) (ev:=D.b) (l:=v29) (k:=x32) (v:=true) Ff,?_⟩;refine⟨rfl,?_⟩;refine apO (f:=D.s) h rfl fun _ h=>?_;exact AH h
    rintro⟨v36,v37⟩ h;refine⟨_,e28,?_⟩;exact p33 _ _ wk h
   rintro⟨v26,v27⟩ h;exact AH h
  rintro⟨v8,v9,v10,v11⟩ h;exact p7 _ _ (.swap 54 34 rfl rfl rfl wk) h
 rintro⟨v1,v2⟩ h;exact fin h
theorem OO {a0:List Int}{a1:Int}{r:Bool}(h:G2 a0 a1=some r):yC wl 85 [AV.d (D.l 1 D.i a0),AV.d (D.i a1)] [] (.d (D.b r)) []:=by
 refine oK Tryz.f85 ⟨rfl,?_⟩;unfold G2 at h;refine⟨a0.length,X10 _,?_⟩;refine AG h (fun _=>⟨dd 17 ([]),nn 17 ([])⟩) ?_ ?_
 ·intro _ h;revert h;refine AM 7 1 D.i rfl (fun i1 _=>⟨X::yi a1::dd 5 (y0 a0::yi (a0.length:Int)::yi (i1:Int)::dd 7 ([])),nn 17 ([])⟩) ?_ ?_ ?_
  ·exact wk
  ·rintro _ K2 h;refine goC ?_;refine Ax BV ?_;exact AH h
  rintro _ i1 x3 _ K2 b1 c1 e1 h p4;refine goC ?_;refine Ar (BO b1) ?_;refine goC ?_;refine⟨Aq (f:=D.i) b1,D.i x3,c1,rfl,?_⟩;refine goC ?_;refine AP h ?_ ?_<;>intro h
  ·exact fin h
  refine⟨_,e1,?_⟩;exact p4 _ _ wk h
 rintro _ h;exact fin h
theorem Oz {a0:List JAB}{a1:JAA}{a2:Int}{r:Int}(h:DZ a0 a1 a2=some r):yC wl 86 [AV.d (D.l 6 JAB.toD a0),AV.d (JAA.toD a1),AV.d (D.i a2)] [] (.d (D.i r)) []:=by
 refine oK Tryz.f86 ⟨rfl,?_⟩;unfold DZ at h;(conv=>whnf);refine AD h (fun _=>FO) fun _ h=>?_;refine goC ?_;refine AP h ?_ ?_<;>intro h
 ·exact fin h
 refine⟨a0.length,X10 _,?_⟩;refine AG h (fun v1=>⟨dd 7 (yi v1::dd 32 ([])),nn 40 ([])⟩) ?_ ?_
 ·intro _ h;revert h;refine AM 13 6 JAB.toD rfl (fun i2 v3=>⟨Vj a2 v3 (a0.length:Int) (i2:Int) a0,Vi a1⟩) ?_ ?_ ?_
  ·exact wk
  ·rintro v3 K4 h;refine goC ?_;refine Ax BV ?_;exact AH h
  rintro _ i2 x5 v3 K4 b2 c2 e2 h p6;refine goC ?_;refine Ar (BO b2) ?_;refine goC ?_;refine⟨Aq (f:=JAB.toD) b2,JAB.toD x5,c2,rfl,?_⟩;refine goC ?_;refine AG h (fun v7=>⟨Vj a2 v7 (a0.length:Int) (i2:Int) a0,Vi a1⟩) ?_ ?_
  ·intro _ h;refine A6 h fun h=>?_;refine AD h (fun _=>CO) fun _ h=>?_;refine AG h (fun v8=>⟨Vj a2 v8 (a0.length:Int) (i2:Int) a0,Vi a1⟩) ?_ ?_
   ·intro _ h;refine AP h ?_ ?_<;>intro h
    ·refine AG h (fun v9=>⟨Vj a2 v9 (a0.length:Int) (i2:Int) a0,Vi a1⟩) ?_ ?_
     ·intro _ h;exact selC h
     rintro v9 h;exact AH h
    refine goC ?_;refine A6 h fun h=>?_;exact fin h
   rintro v8 h;exact AH h
  rintro v7 h;refine⟨_,e2,?_⟩;exact p6 _ _ wk h
 rintro v1 h;exact fin h
theorem US {a0:Addr}{a1:Addr}{r:Int}(h:I8 a0 a1=some r):yC wl 211 [AV.d (Addr.toD a0),AV.d (Addr.toD a1)] [] (.d (D.i r)) []:=by
 refine oK Tryz.f211 ⟨rfl,?_⟩;unfold I8 at h;(conv=>whnf);refine .go ?_;refine goC ?_;refine AP h ?_ ?_<;>intro h
 ·exact fin h
 refine goC ?_;refine AP h ?_ ?_<;>intro h
 ·refine goC ?_;refine AP h ?_ ?_<;>intro h
  ·exact fin h
  exact fin h
 refine AG h (fun v1=>⟨dd 17 (yb v1::dd 19 ([])),nn 37 ([])⟩) ?_ ?_
 ·intro _ h;refine A6 h fun h=>?_;exact selC h
 rintro v1 h;refine goC ?_;refine AP h ?_ ?_<;>intro h
 ·exact fin h
 exact fin h
theorem UB {a0:JAA}{a1:JAA}{r:Int}(h:I4 a0 a1=some r):yC wl 191 [AV.d (JAA.toD a0),AV.d (JAA.toD a1)] [] (.d (D.i r)) []:=by
 refine oK Tryz.f191 ⟨rfl,?_⟩;unfold I4 at h;(conv=>whnf);refine AD h (fun _=>US) fun _ h=>?_;refine goC ?_;refine AP h ?_ ?_<;>intro h
 ·exact fin h
 refine goC ?_;refine goC ?_;refine AP h ?_ ?_<;>intro h
 ·exact fin h
 refine goC ?_;refine AP h ?_ ?_<;>intro h
 ·exact fin h
 exact fin h
theorem T8 {a0:JAB}{a1:JAB}{r:Int}(h:IC a0 a1=some r):yC wl 167 [AV.d (JAB.toD a0),AV.d (JAB.toD a1)] [] (.d (D.i r)) []:=by
 refine oK Tryz.f167 ⟨rfl,?_⟩;unfold IC at h;(conv=>whnf);refine AD h (fun _=>UB) fun _ h=>?_;refine goC ?_;refine AP h ?_ ?_<;>intro h
 ·exact fin h
 refine goC ?_;refine AG h (fun v1=>⟨X::X::yr 2 0::yr 3 0::dd 10 (yb v1::dd 23 ([])),N::N::yB (JAB.av a0)::yB (JAB.av a1)::nn 34 ([])⟩) ?_ ?_
 ·intro _ h;refine A6 h fun h=>?_;exact selC h
 rintro v1 h;refine goC ?_;refine AP h ?_ ?_<;>intro h
 ·exact fin h
 refine goC ?_;refine AP h ?_ ?_<;>intro h
 ·exact fin h
 exact fin h
theorem QB {a0:List JAB}{r:(List JAB)}(h:Ge a0=some r):yC wl 138 [AV.d (D.l 6 JAB.toD a0)] [] (.d (D.l 6 JAB.toD r)) []:=by
 refine oK Tryz.f138 ⟨rfl,?_⟩;unfold Ge at h;refine⟨a0.length,X10 _,?_⟩;refine AG h (fun v1=>⟨X::X::X::yO 3 JAB.toD v1::dd 49 ([]),N::N::N::yR 57 6 JAB.toD v1::nn 49 ([])⟩) ?_ ?_
 ·intro _ h;revert h;refine AM 7 6 JAB.toD rfl (fun i2 v3=>⟨X::X::X::yO 3 JAB.toD v3::X::X::X::y8 a0::yi (a0.length:Int)::yi (i2:Int)::dd 43 ([]),N::N::N::yR 57 6 JAB.toD v3::nn 49 ([])⟩) ?_ ?_ ?_
  ·exact wk
  ·rintro v3 K4 h;refine goC ?_;refine Ax BV ?_;exact AH h
  rintro _ i2 x5 v3 K4 b2 c2 e2 h p6;refine goC ?_;refine Ar (BO b2) ?_;refine AG h (fun v7=>⟨X::X::X::yO 3 JAB.toD v7::X::X::X::y8 a0::yi (a0.length:Int)::yi (i2:Int)::dd 43 ([]),N::N::N::yR 57 6 JAB.toD v7::nn 49 ([])⟩) ?_ ?_
  ·intro _ h;refine⟨Aq (f:=JAB.toD) b2,JAB.toD x5,c2,rfl,?_⟩;refine AG h (fun v8=>⟨X::X::X::yO 3 JAB.toD v3::X::yr 5 0::yi v8::y8 a0::yi (a0.length:Int)::yi (i2:Int)::dd 43 ([]),aU v3 x5⟩) ?_ ?_
   ·intro _ h;revert h;refine BZ (fun v9=>⟨X::X::X::yO 3 JAB.toD v3::X::yr 5 0::yi v9::y8 a0::yi (a0.length:Int)::yi (i2:Int)::dd 43 ([]),aU v3 x5⟩) ?_ ?_
    ·exact wk
    rintro _ v9 _ h p10;refine AG h (fun v11=>⟨X::X::X::yO 3 JAB.toD v3::X::yr 5 0::yi v9::y8 a0::yi (a0.length:Int)::yi (i2:Int)::dd 15 (yb v11::dd 27 ([])),aU v3 x5⟩) ?_ ?_
    ·intro _ h;refine .inl (dO ?_);refine⟨v3.length,HK,?_⟩;refine AP h ?_ ?_<;>intro h
     ·obtain⟨v12,g13,h⟩:=AW h;refine⟨rfl,Ed (f:=JAB.toD) g13,?_⟩;refine⟨rfl,JAB.toD v12,(EZ (f:=JAB.toD) g13),?_⟩;refine Ah h (fun _=>T8) (fun _=>rfl) fun _ h=>?_;refine cO ?_;exact AH h
     refine cO ?_;exact AH h
    rintro v11 h;refine goC ?_;refine Ae h fun h=>?_;refine goC ?_;refine⟨_,rfl,?_⟩;exact p10 _ _ wk h
   rintro v8 h;refine AG h (fun v14=>⟨X::X::X::yO 3 JAB.toD v3::X::yr 5 0::yi v8::y8 a0::yi (a0.length:Int)::yi (i2:Int)::dd 29 (yb v14::dd 13 ([])),aU v3 x5⟩) ?_ ?_
   ·intro _ h;refine .inl (dO ?_);refine⟨v3.length,HK,?_⟩;refine AP h ?_ ?_<;>intro h
    ·obtain⟨v15,g16,h⟩:=AW h;refine⟨rfl,Ed (f:=JAB.toD) g16,?_⟩;refine⟨rfl,JAB.toD v15,(EZ (f:=JAB.toD) g16),?_⟩;refine cO ?_;exact AH h
    refine cO ?_;exact AH h
   rintro v14 h;refine goC ?_;refine A6 h fun h=>?_;refine .inl (dO ?_);(conv=>whnf);refine .inr (.inl ?_);obtain⟨_,g17,h⟩:=AW h;have g65c:=Ie g17;refine⟨bi (f:=JAB.toD) g17,rfl,(Int.toNat 0),(Int.toNat v8-Int.toNat 0),rfl,rfl,?_⟩;refine⟨HK,List.map JAB.toD (List.take (Int.toNat v8-Int.toNat 0) (List.drop (Int.toNat 0) v3)),Z9,?_⟩;refine apN (f:=JAB.toD) h fun _ h=>?_;refine⟨rfl,?_⟩;refine apO (f:=JAB.toD) h rfl fun _ h=>?_;(conv=>whnf);refine .inr (.inl ?_);obtain⟨_,g18,h⟩:=AW h;have g71c:=Ie g18;refine⟨QS (f:=JAB.toD) g18,rfl,(Int.toNat v8),(Int.toNat (v3.length:Int)-Int.toNat v8),rfl,(by rw[X10]),?_⟩;refine⟨HK,List.map JAB.toD (List.take (Int.toNat (v3.length:Int)-Int.toNat v8) (List.drop (Int.toNat v8) v3)),Z9,?_⟩;refine apO (f:=JAB.toD) h rfl fun _ h=>?_;refine cO ?_;exact JJ (.swap 43 3 rfl rfl rfl wk) h
  rintro v7 h;refine⟨_,e2,?_⟩;exact p6 _ _ wk h
 rintro v1 h;(conv=>whnf);refine .inl ?_;(conv=>whnf);refine .inl ?_;refine⟨rfl,?_⟩;exact fin h
theorem UF {a0:JAD}{a1:List Int}{r:(List JAB)}(h:G3 a0 a1=some r):yC wl 87 [AV.d (JAD.toD a0),AV.d (D.l 1 D.i a1)] [] (.d (D.l 6 JAB.toD r)) []:=by
 refine oK Tryz.f87 ⟨rfl,?_⟩;unfold G3 at h;refine⟨a0.Objects.length,X10 _,?_⟩;refine AG h (fun v1=>⟨dd 5 (yO 5 JAB.toD v1::dd 20 ([])),nn 5 (yR 57 6 JAB.toD v1::nn 20 ([]))⟩) ?_ ?_
 ·intro _ h;revert h;refine AM 9 6 JAB.toD rfl (fun i2 v3=>⟨X::y0 a1::X::X::X::yO 5 JAB.toD v3::X::X::X::AV.d (D.l 6 JAB.toD a0.Objects)::yi (a0.Objects.length:Int)::yi (i2:Int)::dd 14 ([]),nn 5 (yR 57 6 JAB.toD v3::nn 20 ([]))⟩) ?_ ?_ ?_
  ·exact wk
  ·rintro v3 K4 h;refine goC ?_;refine Ax BV ?_;exact AH h
  rintro _ i2 x5 v3 K4 b2 c2 e2 h p6;refine goC ?_;refine Ar (BO b2) ?_;refine goC ?_;refine⟨Aq (f:=JAB.toD) b2,JAB.toD x5,c2,rfl,?_⟩;refine AD h (fun _=>OO) fun _ h=>?_;refine AG h (fun v7=>⟨X::y0 a1::X::X::X::yO 5 JAB.toD v7::X::X::X::AV.d (D.l 6 JAB.toD a0.Objects)::yi (a0.Objects.length:Int)::yi (i2:Int)::dd 14 ([]),nn 5 (yR 57 6 JAB.toD v7::nn 20 ([]))⟩) ?_ ?_
  ·intro _ h;refine Ae h fun h=>?_;refine⟨rfl,?_⟩;refine apO (f:=JAB.toD) h rfl fun _ h=>?_;exact AH h
  rintro v7 h;refine⟨_,e2,?_⟩;exact p6 _ _ wk h
 rintro v1 h;refine⟨rfl,?_⟩;refine AD h (fun _=>QB) fun _ h=>?_;exact fin h
theorem M9 {a0:JAD}{a1:Int}{a2:ByteArray}{a3:JAA}{a4:Int}{r:Int}(h:DJ a0 a1 a2 a3 a4=some r):yC wl 46 [AV.d (JAD.toD a0),AV.d (D.i a1),AV.d (D.s a2),AV.d (JAA.toD a3),AV.d (D.i a4)] [] (.d (D.i r)) []:=by
 refine oK Tryz.f46 ⟨rfl,?_⟩;unfold DJ at h;(conv=>whnf);refine AD h (fun _=>IJ) fun _ h=>?_;refine goC ?_;refine AP h ?_ ?_<;>intro h
 ·exact fin h
 refine AG h (fun v1=>⟨dd 4 (yi a4::yr 5 0::X::X::yr 8 0::X::X::yO 19 D.i v1::dd 33 ([])),nn 5 (yB (JAD.av a0)::N::N::yB (JAA.av a3)::nn 10 (yR 3 1 D.i v1::nn 25 ([])))⟩) ?_ ?_
 ·intro _ h;refine Ae h fun h=>?_;refine AD h (fun _=>QD) ?_;rintro⟨_,_,_⟩ h;refine goC ?_;refine AP h ?_ ?_<;>intro h
  ·exact fin h
  refine apO (f:=D.i) h rfl fun _ h=>?_;exact AH h
 rintro v1 h;refine⟨rfl,?_⟩;refine Ry h (fun _=>OO) fun _ h=>?_;refine goC ?_;refine AP h ?_ ?_<;>intro h
 ·exact fin h
 refine .inl (dO ?_);refine⟨rfl,?_⟩;refine Ah h (fun _=>UF) (fun _=>rfl) fun _ h=>?_;refine Ah h (fun _=>Oz) (fun _=>rfl) fun _ h=>?_;refine cO ?_;exact fin h
theorem Qw {a0:List JAB}{a1:JAA}{a2:Int}{r:Int×(List JAB)}(h:HL a0 a1 a2=some r):yC wl 47 [AV.d (D.l 6 JAB.toD a0),AV.d (JAA.toD a1),AV.d (D.i a2)] [] (.tup [.d (D.i r.1),.d (D.l 6 JAB.toD r.2)]) []:=by
 refine oK Tryz.f47 ⟨rfl,?_⟩;unfold HL at h;refine⟨a0.length,X10 _,?_⟩;refine AG h (fun (v1,v2)=>⟨dd 8 (yi v1::yO 9 JAB.toD v2::dd 37 ([])),nn 9 (yR 57 6 JAB.toD v2::nn 37 ([]))⟩) ?_ ?_
 ·intro _ h;revert h;refine AM 12 6 JAB.toD rfl (fun i3 (v4,v5)=>⟨cF a2 v4 (a0.length:Int) (i3:Int) a0 v5,aO v5 a1⟩) ?_ ?_ ?_
  ·exact wk
  ·rintro⟨v4,v5⟩ K6 h;refine goC ?_;refine Ax BV ?_;exact AH h
  rintro _ i3 x7 ⟨v4,v5⟩ K6 b3 c3 e3 h p8;refine goC ?_;refine Ar (BO b3) ?_;refine AG h (fun (v9,v10)=>⟨cF a2 v9 (a0.length:Int) (i3:Int) a0 v10,aO v10 a1⟩) ?_ ?_
  ·intro _ h;refine⟨Aq (f:=JAB.toD) b3,JAB.toD x7,c3,rfl,?_⟩;refine AD h (fun _=>CO) fun _ h=>?_;refine goC ?_;refine A6 h fun h=>?_;refine⟨rfl,?_⟩;refine apO (f:=JAB.toD) h rfl fun v11 h=>?_;refine AG h (fun v12=>⟨X::X::yi a2::X::yr 4 0::X::X::X::yi v12::yO 9 JAB.toD v11::X::yr 11 0::y8 a0::yi (a0.length:Int)::yi (i3:Int)::dd 32 ([]),nn 4 (yB (JAA.av a1)::nn 4 (yR 57 6 JAB.toD v11::N::yB (JAB.av x7)::nn 35 ([])))⟩) ?_ ?_
   ·intro _ h;exact selC h
   rintro v12 h;refine AG h (fun v13=>⟨X::X::yi a2::X::yr 4 0::X::X::X::yi v12::yO 9 JAB.toD v11::X::X::y8 a0::yi (a0.length:Int)::yi (i3:Int)::dd 28 (yb v13::X::X::X::[]),aO v11 a1⟩) ?_ ?_
   ·intro _ h;refine Ae h fun h=>?_;exact selC h
   rintro v13 h;refine AG h (fun v14=>⟨cF a2 v14 (a0.length:Int) (i3:Int) a0 v11,aO v11 a1⟩) ?_ ?_
   ·intro _ h;exact selC h
   rintro v14 h;exact AH h
  rintro⟨v9,v10⟩ h;refine⟨_,e3,?_⟩;exact p8 _ _ wk h
 rintro⟨v1,v2⟩ h;(conv=>whnf);refine .inl ?_;refine⟨rfl,?_⟩;exact fin h
theorem N5 {a0:JAI}{a1:JAO}{a2:JAK}{r:(List Int)}(h:H6 a0 a1 a2=some r):yC wl 24 [AV.d (JAI.toD a0),AV.d (JAO.toD a1),AV.d (JAK.toD a2)] [] (.d (D.l 1 D.i r)) []:=by
 refine oK Tryz.f24 ⟨rfl,?_⟩;unfold H6 at h;(conv=>whnf);refine AD h (fun _=>UO) fun _ h=>?_;refine goC ?_;refine AP h ?_ ?_<;>intro h
 ·(conv=>whnf);refine .inl ?_;(conv=>whnf);refine .inl ?_;refine⟨rfl,?_⟩;exact fin h
 refine JE [27] h (fun _=>P3) fun v1 h=>?_;refine⟨a0.LANs.length,X10 _,?_⟩;refine AG h (fun v2=>⟨X::X::X::yr 3 0::yr 4 0::yr 5 0::X::yO 27 D.i v1::yb v2::yb false::dd 117 ([]),UL v1 a0 a1 a2⟩) ?_ ?_
 ·intro _ h;revert h;refine AM 29 4 JAA.toD rfl (fun i3 v4=>⟨X::X::X::yr 3 0::yr 4 0::yr 5 0::X::yO 27 D.i v1::yb v4::yb false::dd 19 (AV.d (D.l 4 JAA.toD a0.LANs)::yi (a0.LANs.length:Int)::yi (i3:Int)::dd 95 ([])),UL v1 a0 a1 a2⟩) ?_ ?_ ?_
  ·exact wk
  ·rintro v4 K5 h;refine goC ?_;refine Ax BV ?_;exact AH h
  rintro _ i3 x6 v4 K5 b3 c3 e3 h p7;refine goC ?_;refine Ar (BO b3) ?_;refine goC ?_;refine⟨Aq (f:=JAA.toD) b3,JAA.toD x6,c3,rfl,?_⟩;refine AG h (fun v8=>⟨X::X::X::yr 3 0::yr 4 0::yr 5 0::X::yO 27 D.i v1::yb v8::yb false::dd 19 (AV.d (D.l 4 JAA.toD a0.LANs)::yi (a0.LANs.length:Int)::yi (i3:Int)::dd 95 ([])),UL v1 a0 a1 a2⟩) ?_ ?_
  ·intro _ h;refine A6 h fun h=>?_;refine AD h (fun _=>CO) fun _ h=>?_;refine A6 h fun h=>?_;refine AD h (fun _=>CO) fun _ h=>?_;exact AH h
  rintro v8 h;refine⟨_,e3,?_⟩;exact p7 _ _ wk h
 rintro v2 h;refine⟨a0.Bogons.length,X10 _,?_⟩;refine AG h (fun v9=>⟨X::X::X::yr 3 0::yr 4 0::yr 5 0::X::yO 27 D.i v1::yb v2::yb v9::dd 117 ([]),UL v1 a0 a1 a2⟩) ?_ ?_
 ·intro _ h;revert h;refine AM 50 4 JAA.toD rfl (fun i10 v11=>⟨X::X::X::yr 3 0::yr 4 0::yr 5 0::X::yO 27 D.i v1::yb v2::yb v11::dd 40 (AV.d (D.l 4 JAA.toD a0.Bogons)::yi (a0.Bogons.length:Int)::yi (i10:Int)::dd 74 ([])),UL v1 a0 a1 a2⟩) ?_ ?_ ?_
  ·exact wk
  ·rintro v11 K12 h;refine goC ?_;refine Ax BV ?_;exact AH h
  rintro _ i10 x13 v11 K12 b10 c10 e10 h p14;refine goC ?_;refine Ar (BO b10) ?_;refine goC ?_;refine⟨Aq (f:=JAA.toD) b10,JAA.toD x13,c10,rfl,?_⟩;refine AG h (fun v15=>⟨X::X::X::yr 3 0::yr 4 0::yr 5 0::X::yO 27 D.i v1::yb v2::yb v15::dd 40 (AV.d (D.l 4 JAA.toD a0.Bogons)::yi (a0.Bogons.length:Int)::yi (i10:Int)::dd 74 ([])),UL v1 a0 a1 a2⟩) ?_ ?_
  ·intro _ h;refine A6 h fun h=>?_;refine AD h (fun _=>CO) fun _ h=>?_;exact AH h
  rintro v15 h;refine⟨_,e10,?_⟩;exact p14 _ _ wk h
 rintro v9 h;refine AG h (fun v16=>⟨X::X::X::yr 3 0::yr 4 0::yr 5 0::X::yO 27 D.i v16::X::yb v9::dd 117 ([]),UL v16 a0 a1 a2⟩) ?_ ?_
 ·intro _ h;refine Ae h fun h=>?_;refine⟨rfl,?_⟩;refine apO (f:=D.i) h rfl fun _ h=>?_;exact AH h
 rintro v16 h;refine AG h (fun v17=>⟨X::X::X::yr 3 0::yr 4 0::yr 5 0::X::yO 27 D.i v17::dd 119 ([]),UL v17 a0 a1 a2⟩) ?_ ?_
 ·intro _ h;refine Ae h fun h=>?_;refine⟨rfl,?_⟩;refine apO (f:=D.i) h rfl fun _ h=>?_;exact AH h
 rintro v17 h;refine AD h (fun _=>SE) fun _ h=>?_;refine AG h (fun v18=>⟨X::X::X::yr 3 0::yr 4 0::yr 5 0::X::yO 27 D.i v18::dd 119 ([]),UL v18 a0 a1 a2⟩) ?_ ?_
 ·intro _ h;refine Ae h fun h=>?_;refine⟨rfl,?_⟩;refine apO (f:=D.i) h rfl fun _ h=>?_;exact AH h
 rintro v18 h;refine .inl (dO ?_);refine cO ?_;refine AD h (fun _=>HI) fun _ h=>?_;refine AG h (fun (v19,v20)=>⟨dd 4 (yr 4 0::yr 5 0::X::yO 27 D.i v18::dd 6 (yr 14 0::y8 v19::dd 111 ([]))),nn 4 (yB (JAO.av a1)::yB (JAK.av a2)::nn 8 (yB [AV.d (D.l 3 Set.toD a0.JAD.Sets),y8 v20]::nn 12 (yR 3 1 D.i v18::nn 99 ([]))))⟩) ?_ ?_
 ·intro _ h;refine Ae h fun h=>?_;refine AD h (fun _=>IW) fun _ h=>?_;refine AD h (fun _=>IW) fun _ h=>?_;exact AH h
 rintro⟨v19,v20⟩ h;refine AD h (fun _=>J6) ?_;rintro⟨_,_⟩ h;refine AG h (fun v21=>⟨dd 4 (yr 4 0::yr 5 0::X::yO 27 D.i v18::dd 6 (yr 14 0::y8 v19::yi v21::dd 110 ([]))),nn 4 (yB (JAO.av a1)::yB (JAK.av a2)::nn 8 (yB [AV.d (D.l 3 Set.toD a0.JAD.Sets),y8 v20]::nn 12 (yR 3 1 D.i v18::nn 99 ([]))))⟩) ?_ ?_
 ·intro _ h;exact selC h
 rintro v21 h;refine AD h (fun _=>M9) fun _ h=>?_;refine AG h (fun v22=>⟨dd 5 (yr 5 0::X::yO 27 D.i v22::dd 7 (y8 v19::yi v21::dd 110 ([]))),nn 5 (yB (JAK.av a2)::nn 21 (yR 3 1 D.i v22::nn 99 ([])))⟩) ?_ ?_
 ·intro _ h;refine Ae h fun h=>?_;refine⟨rfl,?_⟩;refine apO (f:=D.i) h rfl fun _ h=>?_;exact AH h
 rintro v22 h;refine AD h (fun _=>Qw) ?_;rintro⟨_,_⟩ h;refine AG h (fun v23=>⟨dd 7 (yO 27 D.i v23::dd 119 ([])),nn 27 (yR 3 1 D.i v23::nn 99 ([]))⟩) ?_ ?_
 ·intro _ h;refine Ae h fun h=>?_;refine⟨rfl,?_⟩;refine apO (f:=D.i) h rfl fun _ h=>?_;exact AH h
 rintro v23 h;(conv=>whnf);refine .inl ?_;(conv=>whnf);refine .inl ?_;refine⟨rfl,?_⟩;exact fin h
theorem RP {a0:JAI}{a1:JAO}{a2:JAK}{r:Int}(h:HY a0 a1 a2=some r):yC wl 21 [AV.d (JAI.toD a0),AV.d (JAO.toD a1),AV.d (JAK.toD a2)] [] (.d (D.i r)) []:=by
 refine oK Tryz.f21 ⟨rfl,?_⟩;unfold HY at h;(conv=>whnf);refine AD h (fun _=>N5) fun v1 h=>?_;refine⟨v1.length,X10 _,?_⟩;refine goC ?_;refine AP h ?_ ?_<;>intro h
 ·(conv=>whnf);refine Cd h (fun _=>rfl) fun _ h=>?_;exact fin h
 exact fin h
theorem Ij {a0:List Int}{a1:List Int}{r:Bool}(h:Eg a0 a1=some r):yC wl 22 [AV.d (D.l 1 D.i a0),AV.d (D.l 1 D.i a1)] [] (.d (D.b r)) []:=by
 refine oK Tryz.f22 ⟨rfl,?_⟩;unfold Eg at h;refine⟨a0.length,X10 _,?_⟩;refine⟨a1.length,X10 _,?_⟩;refine goC ?_;refine AP h ?_ ?_<;>intro h
 ·exact fin h
 refine⟨a0.length,X10 _,?_⟩;refine AG h (fun _=>⟨dd 26 ([]),nn 26 ([])⟩) ?_ ?_
 ·intro _ h;revert h;refine AM 11 1 D.i rfl (fun i1 _=>⟨y0 a0::y0 a1::dd 9 (y0 a0::yi (a0.length:Int)::yi (i1:Int)::dd 12 ([])),nn 26 ([])⟩) ?_ ?_ ?_
  ·exact wk
  ·rintro _ K2 h;refine goC ?_;refine Ax BV ?_;exact AH h
  rintro _ i1 x3 _ K2 b1 c1 e1 h p4;refine goC ?_;refine Ar (BO b1) ?_;refine goC ?_;refine .inl (dO ?_);refine⟨Aq (f:=D.i) b1,D.i x3,c1,rfl,?_⟩;(conv=>whnf);refine Cd h (fun _=>rfl) fun _ h=>?_;refine cO ?_;refine goC ?_;refine AP h ?_ ?_<;>intro h
  ·exact fin h
  refine⟨_,e1,?_⟩;exact p4 _ _ wk h
 rintro _ h;exact fin h
theorem HC {a0:JAI}{a1:JAO}{a2:JAK}{r:(List Int)}(h:FR a0 a1 a2=some r):A4 (Wl True) Tryz.prog 23 [AV.d (JAI.toD a0),AV.d (JAO.toD a1),AV.d (JAK.toD a2)] [] (.d (D.l 1 D.i r)) []:=by
 refine oK Tryz.f23 ⟨rfl,?_⟩;unfold FR at h;(conv=>whnf);refine AD h (fun _=>Ih) fun _ h=>?_;exact fin h
theorem law24_FilterChecks_ok {a0:JAK}{a1:List Int}{r:Bool}(h:Cc a0 a1=some r):A4 (Wl True) Tryz.prog 4 [AV.d (JAK.toD a0),AV.d (D.l 1 D.i a1)] [] (.d (D.b r)) []:=by
 refine oK Tryz.f4 ⟨rfl,?_⟩;unfold Cc at h;(conv=>whnf);refine AD h (fun _=>I2) fun _ h=>?_;refine goC ?_;refine AP h ?_ ?_<;>intro h
 ·refine AD h (fun _=>B9) fun _ h=>?_;exact fin h
 refine JE [16] h (fun _=>HW) fun _ h=>?_;refine AD h (fun _=>DO) ?_;rintro⟨v1,_⟩ h;refine AD h (fun _=>AL) ?_;rintro⟨_,_⟩ h;refine⟨_,rfl,?_⟩;refine AD h (fun _=>D1) ?_;rintro⟨v2,_⟩ h;refine AG h (fun _=>⟨dd 57 ([]),nn 57 ([])⟩) ?_ ?_
 ·intro _ h;revert h;refine BZ (fun (v3,v4)=>⟨X::X::yr 2 0::X::X::yr 16 0::yr 6 0::yr 7 0::yi v3::dd 48 ([]),N::N::yB (JAK.av a0)::N::N::N::yB (JAI.av v1)::yB (JAO.av v2)::nn 8 (yB (JAL.av v4)::nn 40 ([]))⟩) ?_ ?_
  ·exact wk
  rintro _ ⟨v3,v4⟩ _ h p5;refine goC ?_;refine Ae h fun h=>?_;refine goC ?_;refine AD h (fun _=>Dq) ?_;rintro⟨_,v6⟩ h;refine AG h (fun v7=>⟨X::X::yr 2 0::X::X::yr 16 0::yr 6 0::yr 7 0::yi v3::yr 9 0::dd 47 ([]),N::N::yB (JAK.av a0)::N::N::N::yB (JAI.av v1)::yB (JAO.av v2)::N::yB (JAK.av v7)::nn 6 (yB (JAL.av v6)::nn 40 ([]))⟩) ?_ ?_
  ·intro _ h;exact selC h
  rintro v7 h;refine AG h (fun v8=>⟨X::X::yr 2 0::X::X::yr 16 0::yr 6 0::yr 7 0::yi v3::dd 46 (yb v8::X::[]),N::N::yB (JAK.av a0)::N::N::N::yB (JAI.av v1)::yB (JAO.av v2)::nn 8 (yB (JAL.av v6)::nn 40 ([]))⟩) ?_ ?_
  ·intro _ h;refine .inl (dO ?_);refine Ah h (fun _=>Dz) (fun _=>rfl) fun _ h=>?_;refine Ah h (fun _=>RP) (fun _=>rfl) fun _ h=>?_;refine AP h ?_ ?_<;>intro h
   ·refine cO ?_;exact AH h
   refine Ah h (fun _=>HC) (fun _=>rfl) fun _ h=>?_;refine Ah h (fun _=>N5) (fun _=>rfl) fun _ h=>?_;refine Ah h (fun _=>Ij) (fun _=>rfl) fun _ h=>?_;refine cO ?_;exact AH h
  rintro v8 h;refine goC ?_;refine AP h ?_ ?_<;>intro h
  ·exact fin h
  refine⟨_,rfl,?_⟩;exact p5 _ _ wk h
 rintro _ h;refine AD h (fun _=>B9) fun _ h=>?_;exact fin h
theorem law24_FilterFirst_ok {a0:JAK}{a1:List Int}{r:Bool}(h:DC a0 a1=some r):A4 (Wl True) Tryz.prog 5 [AV.d (JAK.toD a0),AV.d (D.l 1 D.i a1)] [] (.d (D.b r)) []:=by
 refine oK Tryz.f5 ⟨rfl,?_⟩;unfold DC at h;(conv=>whnf);refine AD h (fun _=>I2) fun _ h=>?_;refine goC ?_;refine AP h ?_ ?_<;>intro h
 ·refine AD h (fun _=>B9) fun _ h=>?_;exact fin h
 refine JE [20] h (fun _=>HW) fun _ h=>?_;refine AD h (fun _=>DO) ?_;rintro⟨v1,_⟩ h;refine AD h (fun _=>AL) ?_;rintro⟨_,_⟩ h;refine⟨_,rfl,?_⟩;refine AD h (fun _=>D1) ?_;rintro⟨v2,_⟩ h;refine .inl (dO ?_);refine Ah h (fun _=>Dq) (fun _=>rfl) ?_;rintro⟨v3,_⟩ h;refine Ah h (fun _=>Dq) (fun _=>rfl) ?_;rintro⟨v4,_⟩ h;refine⟨([a0,v3,v4]:List JAK).length,HK,?_⟩;refine cO ?_;refine AG h (fun _=>⟨dd 98 ([]),nn 98 ([])⟩) ?_ ?_
 ·intro _ h;revert h;refine IF 37 51 16 .no JAK.toD rfl (fun i5 _=>⟨bq (([a0,v3,v4]:List JAK).length:Int) (i5:Int) ([a0,v3,v4]:List JAK),Yc ([a0,v3,v4]:List JAK) v1 v2⟩) ?_ ?_ ?_
  ·exact wk
  ·rintro _ K6 h;refine goC ?_;exact AH h
  rintro _ i5 x7 _ K6 b5 c5 e5 h p8;refine goC ?_;refine Ar (BO b5) ?_;refine AG h (fun _=>⟨bq (([a0,v3,v4]:List JAK).length:Int) (i5:Int) ([a0,v3,v4]:List JAK),Yc ([a0,v3,v4]:List JAK) v1 v2⟩) ?_ ?_
  ·intro _ h;refine⟨rfl,Aq (f:=JAK.toD) b5,?_⟩;refine⟨rfl,JAK.toD x7,c5,?_⟩;refine .inl (dO ?_);refine Ah h (fun _=>Dz) (fun _=>rfl) fun _ h=>?_;refine Ah h (fun _=>HC) (fun _=>rfl) fun v9 h=>?_;refine cO ?_;refine AG h (fun v10=>⟨dd 6 (yr 6 0::yr 7 0::X::X::X::y0 v9::dd 25 (yO 37 JAK.toD ([a0,v3,v4]:List JAK)::yi (([a0,v3,v4]:List JAK).length:Int)::yi (i5:Int)::dd 28 (yb v10::dd 29 ([])))),Yc ([a0,v3,v4]:List JAK) v1 v2⟩) ?_ ?_
   ·intro _ h;refine⟨v9.length,X10 _,?_⟩;refine A6 h fun h=>?_;refine⟨v9.length,X10 _,?_⟩;refine Ae h fun h=>?_;(conv=>whnf);refine Cd h (fun _=>rfl) fun _ h=>?_;exact AH h
   rintro v10 h;refine goC ?_;refine AP h ?_ ?_<;>intro h
   ·exact fin h
   refine⟨v9.length,X10 _,?_⟩;refine AG h (fun _=>⟨bq (([a0,v3,v4]:List JAK).length:Int) (i5:Int) ([a0,v3,v4]:List JAK),Yc ([a0,v3,v4]:List JAK) v1 v2⟩) ?_ ?_
   ·intro _ h;revert h;refine AM 69 1 D.i rfl (fun i11 _=>⟨dd 6 (yr 6 0::yr 7 0::X::X::X::y0 v9::dd 25 (yO 37 JAK.toD ([a0,v3,v4]:List JAK)::yi (([a0,v3,v4]:List JAK).length:Int)::yi (i5:Int)::dd 29 (y0 v9::yi (v9.length:Int)::yi (i11:Int)::dd 26 ([])))),Yc ([a0,v3,v4]:List JAK) v1 v2⟩) ?_ ?_ ?_
    ·exact wk
    ·rintro _ K12 h;refine goC ?_;refine Ax BV ?_;exact AH h
    rintro _ i11 x13 _ K12 b11 c11 e11 h p14;refine goC ?_;refine Ar (BO b11) ?_;refine goC ?_;refine⟨Aq (f:=D.i) b11,D.i x13,c11,rfl,?_⟩;refine AG h (fun v15=>⟨dd 6 (yr 6 0::yr 7 0::X::X::X::y0 v9::dd 25 (yO 37 JAK.toD ([a0,v3,v4]:List JAK)::yi (([a0,v3,v4]:List JAK).length:Int)::yi (i5:Int)::dd 29 (y0 v9::yi (v9.length:Int)::yi (i11:Int)::dd 22 (yb v15::X::X::X::[])))),Yc ([a0,v3,v4]:List JAK) v1 v2⟩) ?_ ?_
    ·intro _ h;refine A6 h fun h=>?_;refine A6 h fun h=>?_;refine Ae h fun h=>?_;refine⟨_,rfl,?_⟩;(conv=>whnf);refine Cd h (fun _=>rfl) fun _ h=>?_;exact AH h
    rintro v15 h;refine goC ?_;refine AP h ?_ ?_<;>intro h
    ·exact fin h
    refine⟨_,e11,?_⟩;exact p14 _ _ wk h
   rintro _ h;exact AH h
  rintro _ h;refine⟨_,e5,?_⟩;exact p8 _ _ wk h
 rintro _ h;refine AD h (fun _=>B9) fun _ h=>?_;exact fin h
theorem law24_FilterMore_ok {a0:List Int}{a1:Int}{r:Bool}(h:Di a0 a1=some r):A4 (Wl True) Tryz.prog 6 [AV.d (D.l 1 D.i a0),AV.d (D.i a1)] [] (.d (D.b r)) []:=by
 refine oK Tryz.f6 ⟨rfl,?_⟩;unfold Di at h;(conv=>whnf);refine JE [22] h (fun _=>HW) fun _ h=>?_;refine AD h (fun _=>DO) ?_;rintro⟨_,_⟩ h;refine AD h (fun _=>AL) ?_;rintro⟨_,_⟩ h;refine⟨_,rfl,?_⟩;refine AD h (fun _=>D1) ?_;rintro⟨_,_⟩ h;refine AD h (fun _=>Dq) ?_;rintro⟨_,_⟩ h;refine AD h (fun _=>Hw) ?_;rintro⟨_,_⟩ h;refine AD h (fun _=>Bz) fun _ h=>?_;refine⟨_,rfl,?_⟩;refine .inl (dO ?_);refine apN (f:=JAB.toD) h fun _ h=>?_;refine⟨rfl,?_⟩;refine apO (f:=JAB.toD) h rfl fun _ h=>?_;refine cO ?_;refine .inl (dO ?_);refine Ah h (fun _=>HC) (fun _=>rfl) fun v1 h=>?_;refine⟨rfl,?_⟩;refine Ah h (fun _=>HC) (fun _=>rfl) fun v2 h=>?_;refine cO ?_;refine⟨v1.length,X10 _,?_⟩;refine AG h (fun (v3,v4)=>⟨dd 12 (y0 v2::yO 13 D.i v4::AV.own 14 (List.map D.i []).length::yb v3::yb false::dd 84 ([])),bf v4⟩) ?_ ?_
 ·intro _ h;revert h;refine AM 62 1 D.i rfl (fun i5 (v6,v7)=>⟨dd 12 (y0 v2::yO 13 D.i v7::AV.own 14 (List.map D.i []).length::yb v6::yb false::dd 45 (y0 v1::yi (v1.length:Int)::yi (i5:Int)::dd 36 ([]))),bf v7⟩) ?_ ?_ ?_
  ·exact wk
  ·rintro⟨v6,v7⟩ K8 h;refine goC ?_;refine Ax BV ?_;exact AH h
  rintro _ i5 x9 ⟨v6,v7⟩ K8 b5 c5 e5 h p10;refine goC ?_;refine Ar (BO b5) ?_;refine goC ?_;refine⟨Aq (f:=D.i) b5,D.i x9,c5,rfl,?_⟩;refine AG h (fun (v11,v12)=>⟨dd 12 (y0 v2::yO 13 D.i v12::AV.own 14 (List.map D.i []).length::yb v11::yb false::dd 45 (y0 v1::yi (v1.length:Int)::yi (i5:Int)::dd 36 ([]))),bf v12⟩) ?_ ?_
  ·intro _ h;refine A6 h fun h=>?_;refine⟨rfl,?_⟩;refine apO (f:=D.i) h rfl fun _ h=>?_;exact AH h
  rintro⟨v11,v12⟩ h;refine⟨_,e5,?_⟩;exact p10 _ _ wk h
 rintro⟨v3,v4⟩ h;refine⟨v2.length,X10 _,?_⟩;refine AG h (fun (v13,v14)=>⟨dd 13 (yO 13 D.i v4::yO 14 D.i v14::yb v3::yb v13::dd 84 ([])),nn 13 (yR 3 1 D.i v4::yR 3 1 D.i v14::nn 86 ([]))⟩) ?_ ?_
 ·intro _ h;revert h;refine AM 75 1 D.i rfl (fun i15 (v16,v17)=>⟨dd 13 (yO 13 D.i v4::yO 14 D.i v17::yb v3::yb v16::dd 58 (y0 v2::yi (v2.length:Int)::yi (i15:Int)::dd 23 ([]))),nn 13 (yR 3 1 D.i v4::yR 3 1 D.i v17::nn 86 ([]))⟩) ?_ ?_ ?_
  ·exact wk
  ·rintro⟨v16,v17⟩ K18 h;refine goC ?_;refine Ax BV ?_;exact AH h
  rintro _ i15 x19 ⟨v16,v17⟩ K18 b15 c15 e15 h p20;refine goC ?_;refine Ar (BO b15) ?_;refine goC ?_;refine⟨Aq (f:=D.i) b15,D.i x19,c15,rfl,?_⟩;refine AG h (fun (v21,v22)=>⟨dd 13 (yO 13 D.i v4::yO 14 D.i v22::yb v3::yb v21::dd 58 (y0 v2::yi (v2.length:Int)::yi (i15:Int)::dd 23 ([]))),nn 13 (yR 3 1 D.i v4::yR 3 1 D.i v22::nn 86 ([]))⟩) ?_ ?_
  ·intro _ h;refine A6 h fun h=>?_;refine⟨rfl,?_⟩;refine apO (f:=D.i) h rfl fun _ h=>?_;exact AH h
  rintro⟨v21,v22⟩ h;refine⟨_,e15,?_⟩;exact p20 _ _ wk h
 rintro⟨v13,v14⟩ h;refine AG h (fun v23=>⟨dd 4 (yb v23::dd 96 ([])),nn 101 ([])⟩) ?_ ?_
 ·intro _ h;refine⟨rfl,?_⟩;refine⟨rfl,?_⟩;refine Ry h (fun _=>Ij) fun _ h=>?_;refine Ae h fun h=>?_;refine AP h ?_ ?_<;>intro h
  ·refine AD h (fun _=>B9) fun _ h=>?_;exact AH h
  refine Ae h fun h=>?_;refine AD h (fun _=>B9) fun _ h=>?_;exact AH h
 rintro v23 h;exact fin h
theorem Ji {a0:Int}{r:Bool}(h:IA a0=some r):yC wl 60 [AV.d (D.i a0)] [] (.d (D.b r)) []:=by
 refine oK Tryz.f60 ⟨rfl,?_⟩;unfold IA at h;(conv=>whnf);refine AG h (fun v1=>⟨X::X::yb v1::dd 6 ([]),nn 9 ([])⟩) ?_ ?_
 ·intro _ h;exact selC h
 rintro v1 h;exact fin h
theorem Nx {a0:List JAA}{a1:Int}{r:Bool}(h:H7 a0 a1=some r):yC wl 61 [AV.d (D.l 4 JAA.toD a0),AV.d (D.i a1)] [] (.d (D.b r)) []:=by
 refine oK Tryz.f61 ⟨rfl,?_⟩;unfold H7 at h;refine⟨a0.length,X10 _,?_⟩;refine AG h (fun _=>⟨y11 a0::yi a1::dd 19 ([]),nn 21 ([])⟩) ?_ ?_
 ·intro _ h;revert h;refine AM 7 4 JAA.toD rfl (fun i1 _=>⟨y11 a0::yi a1::dd 5 (y11 a0::yi (a0.length:Int)::yi (i1:Int)::dd 11 ([])),nn 21 ([])⟩) ?_ ?_ ?_
  ·exact wk
  ·rintro _ K2 h;refine goC ?_;refine Ax BV ?_;exact AH h
  rintro _ i1 x3 _ K2 b1 c1 e1 h p4;refine goC ?_;refine Ar (BO b1) ?_;refine goC ?_;refine⟨Aq (f:=JAA.toD) b1,JAA.toD x3,c1,rfl,?_⟩;refine AD h (fun _=>FO) fun _ h=>?_;refine goC ?_;refine AP h ?_ ?_<;>intro h
  ·exact fin h
  refine⟨_,e1,?_⟩;exact p4 _ _ wk h
 rintro _ h;refine⟨a0.length,X10 _,?_⟩;exact fin h
theorem QX {a0:JAI}{r:Bool}(h:HN a0=some r):yC wl 28 [AV.d (JAI.toD a0)] [] (.d (D.b r)) []:=by
 refine oK Tryz.f28 ⟨rfl,?_⟩;unfold HN at h;(conv=>whnf);refine AG h (fun v1=>⟨X::yr 1 0::dd 41 (yb v1::dd 142 ([])),SV a0⟩) ?_ ?_
 ·intro _ h;refine AD h (fun _=>Ji) fun _ h=>?_;refine A6 h fun h=>?_;refine AD h (fun _=>Nx) fun _ h=>?_;refine A6 h fun h=>?_;refine AD h (fun _=>Nx) fun _ h=>?_;refine A6 h fun h=>?_;refine⟨a0.Private.length,X10 _,?_⟩;refine A6 h fun h=>?_;refine⟨a0.Free.length,X10 _,?_⟩;refine A6 h fun h=>?_;refine⟨a0.Origins.length,X10 _,?_⟩;exact AH h
 rintro v1 h;refine goC ?_;refine AP h ?_ ?_<;>intro h
 ·exact fin h
 refine⟨a0.Private.length,X10 _,?_⟩;refine AG h (fun _=>⟨X::yr 1 0::dd 184 ([]),SV a0⟩) ?_ ?_
 ·intro _ h;revert h;refine AM 45 2 JAN.toD rfl (fun i2 _=>⟨X::yr 1 0::dd 43 (AV.d (D.l 2 JAN.toD a0.Private)::yi (a0.Private.length:Int)::yi (i2:Int)::dd 138 ([])),SV a0⟩) ?_ ?_ ?_
  ·exact wk
  ·rintro _ K3 h;refine goC ?_;refine Ax BV ?_;exact AH h
  rintro _ i2 x4 _ K3 b2 c2 e2 h p5;refine goC ?_;refine Ar (BO b2) ?_;refine goC ?_;refine⟨Aq (f:=JAN.toD) b2,JAN.toD x4,c2,rfl,?_⟩;refine AG h (fun v6=>⟨X::yr 1 0::dd 43 (AV.d (D.l 2 JAN.toD a0.Private)::yi (a0.Private.length:Int)::yi (i2:Int)::dd 17 (yb v6::dd 120 ([]))),SV a0⟩) ?_ ?_
  ·intro _ h;refine A6 h fun h=>?_;exact selC h
  rintro v6 h;refine goC ?_;refine AP h ?_ ?_<;>intro h
  ·exact fin h
  refine⟨_,e2,?_⟩;exact p5 _ _ wk h
 rintro _ h;refine⟨a0.Free.length,X10 _,?_⟩;refine AG h (fun _=>⟨X::yr 1 0::dd 184 ([]),SV a0⟩) ?_ ?_
 ·intro _ h;revert h;refine AM 68 1 D.i rfl (fun i7 _=>⟨X::yr 1 0::dd 66 (AV.d (D.l 1 D.i a0.Free)::yi (a0.Free.length:Int)::yi (i7:Int)::dd 115 ([])),SV a0⟩) ?_ ?_ ?_
  ·exact wk
  ·rintro _ K8 h;refine goC ?_;refine Ax BV ?_;exact AH h
  rintro _ i7 x9 _ K8 b7 c7 e7 h p10;refine goC ?_;refine Ar (BO b7) ?_;refine goC ?_;refine⟨Aq (f:=D.i) b7,D.i x9,c7,rfl,?_⟩;refine AD h (fun _=>Ji) fun _ h=>?_;refine goC ?_;refine AP h ?_ ?_<;>intro h
  ·exact fin h
  refine⟨_,e7,?_⟩;exact p10 _ _ wk h
 rintro _ h;refine⟨a0.Origins.length,X10 _,?_⟩;refine AG h (fun _=>⟨X::yr 1 0::dd 184 ([]),SV a0⟩) ?_ ?_
 ·intro _ h;revert h;refine AM 79 6 JAB.toD rfl (fun i11 _=>⟨X::yr 1 0::dd 77 (AV.d (D.l 6 JAB.toD a0.Origins)::yi (a0.Origins.length:Int)::yi (i11:Int)::dd 104 ([])),SV a0⟩) ?_ ?_ ?_
  ·exact wk
  ·rintro _ K12 h;refine goC ?_;refine Ax BV ?_;exact AH h
  rintro _ i11 x13 _ K12 b11 c11 e11 h p14;refine goC ?_;refine Ar (BO b11) ?_;refine goC ?_;refine⟨Aq (f:=JAB.toD) b11,JAB.toD x13,c11,rfl,?_⟩;refine AG h (fun v15=>⟨X::yr 1 0::dd 77 (AV.d (D.l 6 JAB.toD a0.Origins)::yi (a0.Origins.length:Int)::yi (i11:Int)::dd 34 (yb v15::dd 69 ([]))),SV a0⟩) ?_ ?_
  ·intro _ h;refine .inl (dO ?_);refine Ah h (fun _=>FO) (fun _=>rfl) fun _ h=>?_;refine AP h ?_ ?_<;>intro h
   ·refine cO ?_;exact AH h
   refine AP h ?_ ?_<;>intro h
   ·refine cO ?_;exact AH h
   refine Ah h (fun _=>KY) (fun _=>rfl) fun _ h=>?_;refine AP h ?_ ?_<;>intro h
   ·refine cO ?_;exact AH h
   refine AP h ?_ ?_<;>intro h
   ·refine cO ?_;exact AH h
   refine cO ?_;exact AH h
  rintro v15 h;refine goC ?_;refine AP h ?_ ?_<;>intro h
  ·exact fin h
  refine⟨_,e11,?_⟩;exact p14 _ _ wk h
 rintro _ h;refine AG h (fun v16=>⟨X::yr 1 0::dd 7 (yb v16::dd 176 ([])),SV a0⟩) ?_ ?_
 ·intro _ h;refine Ae h fun h=>?_;refine Ae h fun h=>?_;refine Ae h fun h=>?_;refine Ae h fun h=>?_;exact selC h
 rintro v16 h;refine AG h (fun v17=>⟨X::X::yb v17::dd 183 ([]),nn 186 ([])⟩) ?_ ?_
 ·intro _ h;refine Ae h fun h=>?_;refine Ae h fun h=>?_;refine Ae h fun h=>?_;refine Ae h fun h=>?_;refine Ae h fun h=>?_;refine Ae h fun h=>?_;refine Ae h fun h=>?_;refine AD h (fun _=>IJ) fun _ h=>?_;exact AH h
 rintro v17 h;exact fin h
theorem KQ {a0:Addr}{r:Bool}(h:Dn a0=some r):yC wl 66 [AV.d (Addr.toD a0)] [] (.d (D.b r)) []:=by
 refine oK Tryz.f66 ⟨rfl,?_⟩;unfold Dn at h;(conv=>whnf);refine AD h (fun _=>Ix) fun _ h=>?_;exact fin h
theorem Cf {a0:List Addr}{r:Int}(h:An a0=some r):yC wl 99 [AV.d (D.l 3 Addr.toD a0),AV.fn 66 []] [] (.d (D.i r)) []:=by
 refine oK Tryz.f99 ⟨rfl,?_⟩;unfold An at h;refine⟨a0.length,X10 _,?_⟩;refine AG h (fun _=>⟨Kp,JK⟩) ?_ ?_
 ·intro _ h;revert h;refine AM 6 3 Addr.toD rfl (fun i1 _=>⟨y5 a0::AV.fn 66 []::dd 4 (y5 a0::yi (a0.length:Int)::yi (i1:Int)::dd 10 ([])),JK⟩) ?_ ?_ ?_
  ·exact wk
  ·rintro _ K2 h;refine goC ?_;refine Ax BV ?_;exact AH h
  rintro _ i1 x3 _ K2 b1 c1 e1 h p4;refine goC ?_;refine Ar (BO b1) ?_;refine goC ?_;refine⟨Aq (f:=Addr.toD) b1,Addr.toD x3,c1,rfl,?_⟩;refine AD h (fun _=>KQ) fun _ h=>?_;refine goC ?_;refine AP h ?_ ?_<;>intro h
  ·exact fin h
  refine⟨_,e1,?_⟩;exact p4 _ _ wk h
 rintro _ h;exact fin h
theorem CP {a0:List Addr}{r:Bool}(h:Ad a0=some r):yC wl 65 [AV.d (D.l 3 Addr.toD a0),AV.fn 66 []] [] (.d (D.b r)) []:=by
 refine oK Tryz.f65 ⟨rfl,?_⟩;unfold Ad at h;(conv=>whnf);refine AD h (fun _=>Cf) fun _ h=>?_;exact fin h
theorem Lq {a0:JAO}{r:Bool}(h:ET a0=some r):yC wl 29 [AV.d (JAO.toD a0)] [] (.d (D.b r)) []:=by
 refine oK Tryz.f29 ⟨rfl,?_⟩;unfold ET at h;(conv=>whnf);refine AG h (fun v1=>⟨X::X::yb v1::dd 25 ([]),nn 28 ([])⟩) ?_ ?_
 ·intro _ h;refine AD h (fun _=>BI) fun _ h=>?_;refine Ae h fun h=>?_;refine AD h (fun _=>BI) fun _ h=>?_;refine Ae h fun h=>?_;refine AD h (fun _=>BI) fun _ h=>?_;refine Ae h fun h=>?_;refine⟨a0.Nexts.length,X10 _,?_⟩;refine Ae h fun h=>?_;refine AD h (fun _=>CP) fun _ h=>?_;exact AH h
 rintro v1 h;exact fin h
theorem Md {a0:JAO}{r:Bool}(h:Es a0=some r):yC wl 30 [AV.d (JAO.toD a0)] [] (.d (D.b r)) []:=by
 refine oK Tryz.f30 ⟨rfl,?_⟩;unfold Es at h;refine⟨a0.Nexts.length,X10 _,?_⟩;refine AG h (fun _=>⟨X::yr 1 0::dd 43 ([]),N::yB (JAO.av a0)::nn 43 ([])⟩) ?_ ?_
 ·intro _ h;revert h;refine AM 6 3 Addr.toD rfl (fun i1 _=>⟨X::yr 1 0::dd 4 (AV.d (D.l 3 Addr.toD a0.Nexts)::yi (a0.Nexts.length:Int)::yi (i1:Int)::dd 36 ([])),N::yB (JAO.av a0)::nn 43 ([])⟩) ?_ ?_ ?_
  ·exact wk
  ·rintro _ K2 h;refine goC ?_;refine Ax BV ?_;exact AH h
  rintro _ i1 x3 _ K2 b1 c1 e1 h p4;refine goC ?_;refine Ar (BO b1) ?_;refine goC ?_;refine⟨Aq (f:=Addr.toD) b1,Addr.toD x3,c1,rfl,?_⟩;refine AD h (fun _=>Gh) fun _ h=>?_;refine goC ?_;refine AP h ?_ ?_<;>intro h
  ·exact fin h
  refine⟨_,e1,?_⟩;exact p4 _ _ wk h
 rintro _ h;refine AG h (fun v5=>⟨X::X::yb v5::dd 42 ([]),nn 45 ([])⟩) ?_ ?_
 ·intro _ h;refine AD h (fun _=>Ji) fun _ h=>?_;refine Ae h fun h=>?_;refine Ae h fun h=>?_;refine Ae h fun h=>?_;refine Ae h fun h=>?_;refine Ae h fun h=>?_;refine⟨a0.Nexts.length,X10 _,?_⟩;exact AH h
 rintro v5 h;exact fin h
theorem law24_FilterValid_ok {a0:JAI}{a1:JAO}{a2:JAG}{a3:List Int}{a4:Int}{a5:Int}{r:Bool}(h:C9 a0 a1 a2 a3 a4 a5=some r):A4 (Wl True) Tryz.prog 7 [AV.d (JAI.toD a0),AV.d (JAO.toD a1),AV.d (JAG.toD a2),AV.d (D.l 1 D.i a3),AV.d (D.i a4),AV.d (D.i a5)] [] (.d (D.b r)) []:=by
 refine oK Tryz.f7 ⟨rfl,?_⟩;unfold C9 at h;(conv=>whnf);refine AG h (fun v1=>⟨X::X::X::y0 a3::yi a4::yi a5::yr 6 0::yr 7 0::yr 8 0::dd 45 (yb v1::dd 155 ([])),nn 6 (yB (JAI.av a0)::yB (JAO.av a1)::yB (JAG.av a2)::nn 201 ([]))⟩) ?_ ?_
 ·intro _ h;refine⟨a0.JAD.Objects.length,X10 _,?_⟩;refine A6 h fun h=>?_;refine⟨a0.JAD.Sets.length,X10 _,?_⟩;refine A6 h fun h=>?_;refine⟨a0.Origins.length,X10 _,?_⟩;refine A6 h fun h=>?_;refine⟨a1.Nexts.length,X10 _,?_⟩;refine A6 h fun h=>?_;refine AD h (fun _=>I2) fun _ h=>?_;exact AH h
 rintro v1 h;refine goC ?_;refine AP h ?_ ?_<;>intro h
 ·refine AD h (fun _=>B9) fun _ h=>?_;exact fin h
 refine JE [57] h (fun _=>HW) fun _ h=>?_;refine AD h (fun _=>DO) ?_;rintro⟨v2,_⟩ h;refine AD h (fun _=>D1) ?_;rintro⟨v3,v4⟩ h;refine AD h (fun _=>Bz) fun _ h=>?_;refine goC ?_;refine AG h (fun v5=>⟨Ul a5,Zg a0 a1 a2 v2 v3 v5 v4⟩) ?_ ?_
 ·intro _ h;refine A6 h fun h=>?_;refine AG h (fun v6=>⟨Ul a5,Zg a0 a1 a2 v2 v3 v6 v4⟩) ?_ ?_
  ·intro _ h;refine AP h ?_ ?_<;>intro h
   ·refine AD h (fun _=>Bz) fun _ h=>?_;exact AH h
   refine AG h (fun v7=>⟨Ul a5,Zg a0 a1 a2 v2 v3 v7 v4⟩) ?_ ?_
   ·intro _ h;refine AP h ?_ ?_<;>intro h
    ·refine AD h (fun _=>Bz) fun _ h=>?_;refine⟨_,rfl,?_⟩;exact AH h
    refine AG h (fun v8=>⟨Ul a5,Zg a0 a1 a2 v2 v3 v8 v4⟩) ?_ ?_
    ·intro _ h;refine AP h ?_ ?_<;>intro h
     ·refine AD h (fun _=>Bz) fun _ h=>?_;exact AH h
     refine AG h (fun (v9,v10,v11,v12,v13,v14,v15,v16,v17,v18,v19,v20,v21,v22,v23)=>⟨Ul a5,nn 6 (yB (JAI.av a0)::yB (JAO.av a1)::yB (JAG.av a2)::nn 5 (yB (JAI.av v2)::yB (JAO.av v3)::yB [yi v9,y11 v10,yi v11,yi v12,yi v13,yi v14,yi v15,yi v16,y11 v17,y6 v18,y0 v19,yi v20,y12 v21,y8 v22,y8 v23]::nn 40 (yB (JAL.av v4)::nn 152 ([]))))⟩) ?_ ?_
     ·intro _ h;refine AP h ?_ ?_<;>intro h
      ·refine AD h (fun _=>Bz) fun _ h=>?_;exact AH h
      refine AG h (fun (v24,v25,v26,v27,v28,v29,v30,v31,v32,v33,v34,v35,v36,v37,v38)=>⟨Ul a5,nn 6 (yB (JAI.av a0)::yB (JAO.av a1)::yB (JAG.av a2)::nn 5 (yB (JAI.av v2)::yB (JAO.av v3)::yB [yi v24,y11 v25,yi v26,yi v27,yi v28,yi v29,yi v30,yi v31,y11 v32,y6 v33,y0 v34,yi v35,y12 v36,y8 v37,y8 v38]::nn 40 (yB (JAL.av v4)::nn 152 ([]))))⟩) ?_ ?_
      ·intro _ h;refine AP h ?_ ?_<;>intro h
       ·refine AD h (fun _=>Bz) fun _ h=>?_;exact AH h
       refine AG h (fun (v39,v40,v41,v42,v43,v44,v45,v46,v47,v48,v49,v50,v51,v52,v53)=>⟨Ul a5,nn 6 (yB (JAI.av a0)::yB (JAO.av a1)::yB (JAG.av a2)::nn 5 (yB (JAI.av v2)::yB (JAO.av v3)::yB [yi v39,y11 v40,yi v41,yi v42,yi v43,yi v44,yi v45,yi v46,y11 v47,y6 v48,y0 v49,yi v50,y12 v51,y8 v52,y8 v53]::nn 40 (yB (JAL.av v4)::nn 152 ([]))))⟩) ?_ ?_
       ·intro _ h;refine AP h ?_ ?_<;>intro h
        ·refine AD h (fun _=>Bz) fun _ h=>?_;refine AD h (fun _=>Bz) fun _ h=>?_;refine⟨_,rfl,?_⟩;exact AH h
        refine AG h (fun v54=>⟨Ul a5,Zg a0 a1 a2 v2 v3 v54 v4⟩) ?_ ?_
        ·intro _ h;refine AP h ?_ ?_<;>intro h
         ·refine AD h (fun _=>Bz) fun _ h=>?_;exact AH h
         refine AG h (fun v55=>⟨Ul a5,nn 6 (yB (JAI.av a0)::yB (JAO.av a1)::yB (JAG.av a2)::nn 5 (yB (JAI.av v2)::yB (JAO.av v3)::yB [AV.d (D.i v2.Own),y11 v55,AV.d (D.i v2.Min4),AV.d (D.i v2.Max4),AV.d (D.i v2.Min6),AV.d (D.i v2.Max6),AV.d (D.i v2.Hole4),AV.d (D.i v2.Hole6),AV.d (D.l 4 JAA.toD v2.Bogons),AV.d (D.l 2 JAN.toD v2.Private),AV.d (D.l 1 D.i v2.Free),AV.d (D.i v2.Hops),AV.d (D.l 3 Set.toD v2.JAD.Sets),AV.d (D.l 6 JAB.toD v2.JAD.Objects),AV.d (D.l 6 JAB.toD v2.Origins)]::nn 40 (yB (JAL.av v4)::nn 152 ([]))))⟩) ?_ ?_
         ·intro _ h;refine Ae h fun h=>?_;refine AD h (fun _=>Bz) fun _ h=>?_;refine⟨_,rfl,?_⟩;exact AH h
         rintro v55 h;exact AH h
        rintro v54 h;exact AH h
       rintro⟨v39,v40,v41,v42,v43,v44,v45,v46,v47,v48,v49,v50,v51,v52,v53⟩ h;exact AH h
      rintro⟨v24,v25,v26,v27,v28,v29,v30,v31,v32,v33,v34,v35,v36,v37,v38⟩ h;exact AH h
     rintro⟨v9,v10,v11,v12,v13,v14,v15,v16,v17,v18,v19,v20,v21,v22,v23⟩ h;exact AH h
    rintro v8 h;exact AH h
   rintro v7 h;exact AH h
  rintro v6 h;exact AH h
 rintro v5 h;refine AD h (fun _=>Bz) fun v56 h=>?_;refine⟨_,rfl,?_⟩;refine⟨([a0,v2,v5]:List JAI).length,HK,?_⟩;refine AG h (fun _=>⟨dd 7 (yr 7 0::yr 8 0::dd 4 (yr 57 0::yr 14 0::yr 15 0::X::yr 17 0::dd 192 ([]))),nn 7 (yB (JAO.av a1)::yB (JAG.av a2)::nn 5 (yB (JAI.av v2)::yB (JAO.av v3)::N::yB [AV.d (D.i v3.ASN),AV.d (D.s v3.Set),yi (A0 (v56-20)),AV.d (D.i v3.Max6),AV.d (D.l 3 Addr.toD v3.Nexts)]::nn 39 (yB (JAL.av v4)::nn 152 ([]))))⟩) ?_ ?_
 ·intro _ h;revert h;refine IF 130 32 15 .no JAI.toD rfl (fun i57 _=>⟨dd 7 (yr 7 0::yr 8 0::dd 4 (yr 57 0::yr 14 0::yr 15 0::X::yr 17 0::dd 112 (yO 130 JAI.toD ([a0,v2,v5]:List JAI)::yi (([a0,v2,v5]:List JAI).length:Int)::yi (i57:Int)::dd 77 ([])))),nn 7 (yB (JAO.av a1)::yB (JAG.av a2)::nn 5 (yB (JAI.av v2)::yB (JAO.av v3)::N::yB [AV.d (D.i v3.ASN),AV.d (D.s v3.Set),yi (A0 (v56-20)),AV.d (D.i v3.Max6),AV.d (D.l 3 Addr.toD v3.Nexts)]::nn 39 (yB (JAL.av v4)::nn 72 (yR 32 15 JAI.toD ([a0,v2,v5]:List JAI)::nn 79 ([])))))⟩) ?_ ?_ ?_
  ·exact wk
  ·rintro _ K58 h;refine goC ?_;exact AH h
  rintro _ i57 x59 _ K58 b57 c57 e57 h p60;refine goC ?_;refine Ar (BO b57) ?_;refine goC ?_;refine⟨rfl,Aq (f:=JAI.toD) b57,?_⟩;refine⟨rfl,JAI.toD x59,c57,?_⟩;refine .inl (dO ?_);refine Ah h (fun _=>KA) (fun _=>rfl) fun _ h=>?_;refine Ah h (fun _=>QX) (fun _=>rfl) fun _ h=>?_;refine cO ?_;refine goC ?_;refine AP h ?_ ?_<;>intro h
  ·exact fin h
  refine⟨_,e57,?_⟩;exact p60 _ _ wk h
 rintro _ h;refine⟨([a1,v3,{ v3 with Max4:=(A0 (v56-20)) }]:List JAO).length,HK,?_⟩;refine AG h (fun _=>⟨dd 8 (yr 8 0::dd 4 (yr 57 0::yr 14 0::dd 195 ([]))),nn 8 (yB (JAG.av a2)::nn 5 (yB (JAI.av v2)::nn 42 (yB (JAL.av v4)::nn 152 ([]))))⟩) ?_ ?_
 ·intro _ h;revert h;refine IF 145 36 5 .no JAO.toD rfl (fun i61 _=>⟨dd 8 (yr 8 0::dd 4 (yr 57 0::yr 14 0::dd 130 (yO 145 JAO.toD ([a1,v3,{ v3 with Max4:=(A0 (v56-20)) }]:List JAO)::AV.d (D.i (([a1,v3,{ v3 with Max4:=(A0 (v56-20)) }]:List JAO).length:Int))::yi (i61:Int)::dd 62 ([])))),nn 8 (yB (JAG.av a2)::nn 5 (yB (JAI.av v2)::nn 42 (yB (JAL.av v4)::nn 87 (yR 36 5 JAO.toD ([a1,v3,{ v3 with Max4:=(A0 (v56-20)) }]:List JAO)::nn 64 ([])))))⟩) ?_ ?_ ?_
  ·exact wk
  ·rintro _ K62 h;refine goC ?_;exact AH h
  rintro _ i61 x63 _ K62 b61 c61 e61 h p64;refine goC ?_;refine Ar (BO b61) ?_;refine goC ?_;refine⟨rfl,Aq (f:=JAO.toD) b61,?_⟩;refine⟨rfl,JAO.toD x63,c61,?_⟩;refine .inl (dO ?_);refine Ah h (fun _=>Lq) (fun _=>rfl) fun _ h=>?_;refine Ah h (fun _=>Md) (fun _=>rfl) fun _ h=>?_;refine cO ?_;refine goC ?_;refine AP h ?_ ?_<;>intro h
  ·exact fin h
  refine⟨_,e61,?_⟩;exact p64 _ _ wk h
 rintro _ h;refine AD h (fun _=>IL) ?_;rintro⟨v65,_⟩ h;refine .inl (dO ?_);refine Ah h (fun _=>Hn) (fun _=>rfl) fun v66 h=>?_;refine Ah h (fun _=>IW) (fun _=>rfl) fun v67 h=>?_;refine cO ?_;refine⟨v67.length,X10 _,?_⟩;refine AG h (fun _=>⟨dd 8 (yr 8 0::dd 13 (yr 22 0::y8 v66::y8 v67::dd 185 ([]))),nn 8 (yB (JAG.av a2)::nn 13 (yB (JAG.av v65)::nn 187 ([])))⟩) ?_ ?_
 ·intro _ h;revert h;refine AM 167 6 JAB.toD rfl (fun i68 _=>⟨dd 8 (yr 8 0::dd 13 (yr 22 0::y8 v66::y8 v67::dd 142 (y8 v67::yi (v67.length:Int)::yi (i68:Int)::dd 40 ([])))),nn 8 (yB (JAG.av a2)::nn 13 (yB (JAG.av v65)::nn 187 ([])))⟩) ?_ ?_ ?_
  ·exact wk
  ·rintro _ K69 h;refine goC ?_;refine Ax BV ?_;exact AH h
  rintro _ i68 x70 _ K69 b68 c68 e68 h p71;refine goC ?_;refine Ar (BO b68) ?_;refine goC ?_;refine AG h (fun v72=>⟨dd 8 (yr 8 0::dd 13 (yr 22 0::y8 v66::y8 v67::dd 142 (y8 v67::yi (v67.length:Int)::yi (i68:Int)::dd 16 (yb v72::dd 23 ([]))))),nn 8 (yB (JAG.av a2)::nn 13 (yB (JAG.av v65)::nn 187 ([])))⟩) ?_ ?_
  ·intro _ h;refine .inl (dO ?_);refine⟨v66.length,X10 _,?_⟩;refine AP h ?_ ?_<;>intro h
   ·refine cO ?_;exact AH h
   (conv=>whnf);refine Cd h (fun _=>rfl) fun _ h=>?_;refine⟨Aq (f:=JAB.toD) b68,JAB.toD x70,c68,rfl,?_⟩;refine cO ?_;exact AH h
  rintro v72 h;refine goC ?_;refine AP h ?_ ?_<;>intro h
  ·exact fin h
  refine⟨_,e68,?_⟩;exact p71 _ _ wk h
 rintro _ h;refine AG h (fun v73=>⟨dd 12 (yb v73::dd 197 ([])),nn 210 ([])⟩) ?_ ?_
 ·intro _ h;refine .inl (dO ?_);refine⟨v66.length,X10 _,?_⟩;refine⟨v67.length,X10 _,?_⟩;refine AP h ?_ ?_<;>intro h
  ·refine Ah h (fun _=>Gp) (fun _=>rfl) fun _ h=>?_;refine Ah h (fun _=>HI) (fun _=>rfl) fun _ h=>?_;refine AP h ?_ ?_<;>intro h
   ·refine Ah h (fun _=>Gp) (fun _=>rfl) fun _ h=>?_;refine Ah h (fun _=>HI) (fun _=>rfl) fun _ h=>?_;refine AP h ?_ ?_<;>intro h
    ·refine Ah h (fun _=>B9) (fun _=>rfl) fun _ h=>?_;refine cO ?_;exact AH h
    refine cO ?_;exact AH h
   refine cO ?_;exact AH h
  refine cO ?_;exact AH h
 rintro v73 h;exact fin h
end Go.AX.Q24
end
