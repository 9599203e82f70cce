/-
  Texts of one proof, packed: Q35P5 Q35P6 Q35P7 Q35P8 Q35P9 Q35P10 Q35P11 Q35P12 Q35P13 Q35P14 Q35P15.
-/
import Derived.Test.YtgibfgaaoopieaaGreatK3
set_option linter.all false
section
namespace Go.AX.Q35
open Go Go.AX Go.Proofs
set_option maxRecDepth 100000
set_option maxHeartbeats 4000000
set_option linter.unusedVariables false
theorem ref28_Prefixes_ok {a0:Server} {r:(List Prefix)} (h:ref28_Prefixes a0=some r):CallsOK Tryz.prog 23 [AV.d (Server.toD a0)] [] (.d (D.l 4 Prefix.toD r)) []:=by
 refine ok Tryz.f23 (by kernel_rfl) (by kernel_rfl) ⟨rfl,?_⟩;unfold ref28_Prefixes at h;refine ⟨a0.RIBs.length,List.length_map _,?_⟩;revert h;refine cut_join (fun v1=>⟨X::X::X::AV.own 3 (List.map Prefix.toD v1).length::dd 66 ([]),N::N::N::some (OB.row 50 4 (List.map Prefix.toD v1) false)::nn 66 ([])⟩) ?_ ?_
 ·intro k2 h;revert h;refine loop_for 12 8 RIB.toD rfl (fun i3 v4=>⟨X::X::X::AV.own 3 (List.map Prefix.toD v4).length::dd 8 (AV.d (D.l 8 RIB.toD a0.RIBs)::AV.d (D.i (a0.RIBs.length:Int))::AV.d (D.i (i3:Int))::dd 55 ([])),N::N::N::some (OB.row 50 4 (List.map Prefix.toD v4) false)::nn 66 ([])⟩) ?_ ?_ ?_
  ·exact wk
  ·rintro v4 K5 h;(conv=>whnf);refine .go ?_;(conv=>whnf);refine sel_f lt_f ?_;exact join_end wk h
  ·rintro next6 i3 x7 v4 K5 hii3 hxi3 hwi3 h hK8;(conv=>whnf);refine .go ?_;(conv=>whnf);refine sel_t (lt_t hii3) ?_;revert h;refine cut_join (fun v9=>⟨X::X::X::AV.own 3 (List.map Prefix.toD v9).length::dd 8 (AV.d (D.l 8 RIB.toD a0.RIBs)::AV.d (D.i (a0.RIBs.length:Int))::AV.d (D.i (i3:Int))::dd 55 ([])),N::N::N::some (OB.row 50 4 (List.map Prefix.toD v9) false)::nn 66 ([])⟩) ?_ ?_
   ·intro k10 h;refine ⟨idx_b (f:=RIB.toD) hii3,RIB.toD x7,hxi3,rfl,?_⟩;refine ⟨x7.Held.length,List.length_map _,?_⟩;revert h;refine cut_join (fun v11=>⟨X::X::X::AV.own 3 (List.map Prefix.toD v11).length::dd 8 (AV.d (D.l 8 RIB.toD a0.RIBs)::AV.d (D.i (a0.RIBs.length:Int))::AV.d (D.i (i3:Int))::dd 55 ([])),N::N::N::some (OB.row 50 4 (List.map Prefix.toD v11) false)::nn 66 ([])⟩) ?_ ?_
    ·intro k12 h;revert h;refine loop_for 19 18 Held.toD rfl (fun i13 v14=>⟨X::X::X::AV.own 3 (List.map Prefix.toD v14).length::dd 8 (AV.d (D.l 8 RIB.toD a0.RIBs)::AV.d (D.i (a0.RIBs.length:Int))::AV.d (D.i (i3:Int))::dd 4 (AV.d (D.l 18 Held.toD x7.Held)::AV.d (D.i (x7.Held.length:Int))::AV.d (D.i (i13:Int))::dd 48 ([]))),N::N::N::some (OB.row 50 4 (List.map Prefix.toD v14) false)::nn 66 ([])⟩) ?_ ?_ ?_
     ·exact wk
     ·rintro v14 K15 h;(conv=>whnf);refine .go ?_;(conv=>whnf);refine sel_f lt_f ?_;exact join_end wk h
     ·rintro next16 i13 x17 v14 K15 hii13 hxi13 hwi13 h hK18;(conv=>whnf);refine .go ?_;(conv=>whnf);refine sel_t (lt_t hii13) ?_;revert h;refine cut_join (fun v19=>⟨X::X::X::AV.own 3 (List.map Prefix.toD v19).length::dd 8 (AV.d (D.l 8 RIB.toD a0.RIBs)::AV.d (D.i (a0.RIBs.length:Int))::AV.d (D.i (i3:Int))::dd 4 (AV.d (D.l 18 Held.toD x7.Held)::AV.d (D.i (x7.Held.length:Int))::AV.d (D.i (i13:Int))::dd 48 ([]))),N::N::N::some (OB.row 50 4 (List.map Prefix.toD v19) false)::nn 66 ([])⟩) ?_ ?_
      ·intro k20 h;refine ⟨idx_b (f:=Held.toD) hii13,Held.toD x17,hxi13,rfl,?_⟩;revert h;refine cut_join (fun v21=>⟨X::X::X::AV.own 3 (List.map Prefix.toD v14).length::dd 4 (AV.ref 8 0::AV.d (D.i v21)::X::X::AV.d (D.l 8 RIB.toD a0.RIBs)::AV.d (D.i (a0.RIBs.length:Int))::AV.d (D.i (i3:Int))::dd 4 (AV.d (D.l 18 Held.toD x7.Held)::AV.d (D.i (x7.Held.length:Int))::AV.d (D.i (i13:Int))::dd 48 ([]))),N::N::N::some (OB.row 50 4 (List.map Prefix.toD v14) false)::nn 4 (some (OB.box (Prefix.av x17.Route.Prefix))::nn 61 ([]))⟩) ?_ ?_
       ·intro k22 h;revert h;refine loop_while (fun v23=>⟨X::X::X::AV.own 3 (List.map Prefix.toD v14).length::dd 4 (AV.ref 8 0::AV.d (D.i v23)::X::X::AV.d (D.l 8 RIB.toD a0.RIBs)::AV.d (D.i (a0.RIBs.length:Int))::AV.d (D.i (i3:Int))::dd 4 (AV.d (D.l 18 Held.toD x7.Held)::AV.d (D.i (x7.Held.length:Int))::AV.d (D.i (i13:Int))::dd 48 ([]))),N::N::N::some (OB.row 50 4 (List.map Prefix.toD v14) false)::nn 4 (some (OB.box (Prefix.av x17.Route.Prefix))::nn 61 ([]))⟩) ?_ ?_
        ·exact wk
        rintro next24 v23 K25 h hK26;revert h;refine cut_join (fun v27=>⟨X::X::X::AV.own 3 (List.map Prefix.toD v14).length::dd 4 (AV.ref 8 0::AV.d (D.i v23)::X::X::AV.d (D.l 8 RIB.toD a0.RIBs)::AV.d (D.i (a0.RIBs.length:Int))::AV.d (D.i (i3:Int))::dd 4 (AV.d (D.l 18 Held.toD x7.Held)::AV.d (D.i (x7.Held.length:Int))::AV.d (D.i (i13:Int))::dd 18 (AV.d (D.b v27)::dd 29 ([])))),N::N::N::some (OB.row 50 4 (List.map Prefix.toD v14) false)::nn 4 (some (OB.box (Prefix.av x17.Route.Prefix))::nn 61 ([]))⟩) ?_ ?_
        ·intro k28 h;(conv=>whnf);refine dOB (by kernel_rfl) ?_;refine ⟨v14.length,by first | exact List.length_map _ | rfl | (simp only [List.length_map];omega),?_⟩;revert h;refine sel_if ?_ ?_<;>intro h
         ·obtain ⟨v29,g30,h⟩:=bind_inv h;refine ⟨rfl,geti_b (f:=Prefix.toD) g30,?_⟩;refine ⟨rfl,Prefix.toD v29,(geti_d (f:=Prefix.toD) g30),?_⟩;obtain ⟨v31,g32,h⟩:=bind_inv h;refine ⟨_,_,ref02_Cmp_ok g32,.inl rfl,?_⟩;(conv=>whnf);refine cOB (by kernel_rfl) ?_;exact join_end wk h
         ·(conv=>whnf);refine cOB (by kernel_rfl) ?_;exact join_end wk h
        ·rintro v27 h;(conv=>whnf);refine .go ?_;revert h;refine sel_if ?_ ?_<;>intro h
         ·(conv=>whnf);refine .go ?_;refine ⟨_,rfl,?_⟩;exact hK26 _ _ wk h
         ·exact join_end wk h
       ·rintro v21 h;revert h;refine cut_join (fun v33=>⟨X::X::X::AV.own 3 (List.map Prefix.toD v14).length::dd 4 (AV.ref 8 0::AV.d (D.i v21)::X::X::AV.d (D.l 8 RIB.toD a0.RIBs)::AV.d (D.i (a0.RIBs.length:Int))::AV.d (D.i (i3:Int))::dd 4 (AV.d (D.l 18 Held.toD x7.Held)::AV.d (D.i (x7.Held.length:Int))::AV.d (D.i (i13:Int))::dd 32 (AV.d (D.b v33)::dd 15 ([])))),N::N::N::some (OB.row 50 4 (List.map Prefix.toD v14) false)::nn 4 (some (OB.box (Prefix.av x17.Route.Prefix))::nn 61 ([]))⟩) ?_ ?_
        ·intro k34 h;(conv=>whnf);refine dOB (by kernel_rfl) ?_;refine ⟨v14.length,by first | exact List.length_map _ | rfl | (simp only [List.length_map];omega),?_⟩;revert h;refine sel_if ?_ ?_<;>intro h
         ·obtain ⟨v35,g36,h⟩:=bind_inv h;refine ⟨rfl,geti_b (f:=Prefix.toD) g36,?_⟩;refine ⟨rfl,Prefix.toD v35,(geti_d (f:=Prefix.toD) g36),?_⟩;(conv=>whnf);refine cOB (by kernel_rfl) ?_;exact join_end wk h
         ·(conv=>whnf);refine cOB (by kernel_rfl) ?_;exact join_end wk h
        ·rintro v33 h;(conv=>whnf);refine .go ?_;revert h;refine sel_if ?_ ?_<;>intro h
         ·exact join_end wk h
         ·(conv=>whnf);refine .inr (.inl ?_);obtain ⟨_,g37,h⟩:=bind_inv h;refine ⟨view_b0 (f:=Prefix.toD) g37,rfl,(Int.toNat v21),(Int.toNat (v14.length:Int) - Int.toNat v21),rfl,(by rw [List.length_map]),?_⟩;refine ⟨(by first | rfl | (simp only [List.length_map,List.length_set];omega)),List.map Prefix.toD (List.take (Int.toNat (v14.length:Int) - Int.toNat v21) (List.drop (Int.toNat v21) v14)),view_z,?_⟩;obtain ⟨_,g38,h⟩:=bind_inv h;refine ⟨apnd_b0 (g:=Prefix.toD) g38,?_⟩;(conv=>whnf);refine dOB (by kernel_rfl) ?_;(conv=>whnf);refine .inr (.inr ?_);obtain ⟨v39,g40,h⟩:=bind_inv h;refine ⟨move_b (f:=Prefix.toD) g40,rfl,_,part_z (f:=Prefix.toD) g40,?_⟩;refine ⟨rfl,?_⟩;obtain ⟨v41,g42,h⟩:=bind_inv h;refine ⟨rfl,apnd_b (f:=Prefix.toD) (g:=Prefix.toD) g42,_,apnd_z (f:=Prefix.toD) g42,?_⟩;refine ⟨rfl,?_⟩;obtain ⟨v43,g44,h⟩:=bind_inv h;refine ⟨rfl,apnd_b (f:=Prefix.toD) (g:=Prefix.toD) g44,_,apnd_z (f:=Prefix.toD) g44,?_⟩;(conv=>whnf);refine cOB (by kernel_rfl) ?_;exact join_end (.swap 61 3 rfl rfl rfl wk) h
      ·rintro v19 h;refine ⟨_,hwi13,?_⟩;exact hK18 _ _ wk h
    ·rintro v11 h;exact join_end wk h
   ·rintro v9 h;refine ⟨_,hwi3,?_⟩;exact hK8 _ _ wk h
 ·rintro v1 h;(conv=>whnf);refine .inl ?_;refine ⟨rfl,?_⟩;cases h;exact ⟨rfl,rfl⟩
theorem ref28_At_ok {a0:Server} {a1:Int} {r:Int} (h:ref28_At a0 a1=some r):CallsOK Tryz.prog 18 [AV.d (Server.toD a0),AV.d (D.i a1)] [] (.d (D.i r)) []:=by
 refine ok Tryz.f18 (by kernel_rfl) (by kernel_rfl) ⟨rfl,?_⟩;unfold ref28_At at h;refine ⟨a0.Policies.length,List.length_map _,?_⟩;revert h;refine cut_join (fun _=>⟨dd 21 ([]),nn 21 ([])⟩) ?_ ?_
 ·intro k1 h;revert h;refine loop_for 8 7 Policy.toD rfl (fun i2 _=>⟨X::AV.d (D.i a1)::dd 6 (AV.d (D.l 7 Policy.toD a0.Policies)::AV.d (D.i (a0.Policies.length:Int))::AV.d (D.i (i2:Int))::dd 10 ([])),nn 21 ([])⟩) ?_ ?_ ?_
  ·exact wk
  ·rintro _ K3 h;(conv=>whnf);refine .go ?_;(conv=>whnf);refine sel_f lt_f ?_;exact join_end wk h
  ·rintro next4 i2 x5 _ K3 hii2 hxi2 hwi2 h hK6;(conv=>whnf);refine .go ?_;(conv=>whnf);refine sel_t (lt_t hii2) ?_;(conv=>whnf);refine .go ?_;refine ⟨idx_b (f:=Policy.toD) hii2,Policy.toD x5,hxi2,rfl,?_⟩;(conv=>whnf);refine .go ?_;revert h;refine sel_if ?_ ?_<;>intro h
   ·cases h;exact ⟨rfl,rfl⟩
   ·refine ⟨_,hwi2,?_⟩;exact hK6 _ _ wk h
 ·rintro _ h;cases h;exact ⟨rfl,rfl⟩
theorem ref25_Get_ok {a0:RIB} {a1:Prefix} {r:Held×Bool} (h:ref25_Get a0 a1=some r):CallsOK Tryz.prog 97 [AV.d (RIB.toD a0),AV.d (Prefix.toD a1)] [] (.tup [.d (Held.toD r.1),.d (D.b r.2)]) []:=by
 refine ok Tryz.f97 (by kernel_rfl) (by kernel_rfl) ⟨rfl,?_⟩;unfold ref25_Get at h;refine ⟨a0.Held.length,List.length_map _,?_⟩;revert h;refine cut_join (fun _=>⟨dd 4 (AV.ref 4 0::dd 18 ([])),nn 4 (some (OB.box Held.zv)::nn 18 ([]))⟩) ?_ ?_
 ·intro k1 h;revert h;refine loop_for 9 18 Held.toD rfl (fun i2 _=>⟨X::X::X::AV.ref 3 0::AV.ref 4 0::dd 4 (AV.d (D.l 18 Held.toD a0.Held)::AV.d (D.i (a0.Held.length:Int))::AV.d (D.i (i2:Int))::dd 11 ([])),N::N::N::some (OB.box (Prefix.av a1))::some (OB.box Held.zv)::nn 18 ([])⟩) ?_ ?_ ?_
  ·exact wk
  ·rintro _ K3 h;(conv=>whnf);refine .go ?_;(conv=>whnf);refine sel_f lt_f ?_;exact join_end wk h
  ·rintro next4 i2 x5 _ K3 hii2 hxi2 hwi2 h hK6;(conv=>whnf);refine .go ?_;(conv=>whnf);refine sel_t (lt_t hii2) ?_;(conv=>whnf);refine .go ?_;refine ⟨idx_b (f:=Held.toD) hii2,Held.toD x5,hxi2,rfl,?_⟩;(conv=>whnf);refine .go ?_;revert h;refine sel_if ?_ ?_<;>intro h
   ·cases h;exact ⟨rfl,rfl⟩
   ·refine ⟨_,hwi2,?_⟩;exact hK6 _ _ wk h
 ·rintro _ h;cases h;exact ⟨rfl,rfl⟩
theorem ref25_Accepted_ok {a0:RIB} {a1:Prefix} {r:Route×Bool} (h:ref25_Accepted a0 a1=some r):CallsOK Tryz.prog 69 [AV.d (RIB.toD a0),AV.d (Prefix.toD a1)] [] (.tup [.d (Route.toD r.1),.d (D.b r.2)]) []:=by
 refine ok Tryz.f69 (by kernel_rfl) (by kernel_rfl) ⟨rfl,?_⟩;unfold ref25_Accepted at h;obtain ⟨⟨v1,v2⟩,g3,h⟩:=bind_inv h;refine ⟨_,_,some [],ref25_Get_ok g3,?_⟩;revert h;refine cut_join (fun v4=>⟨dd 4 (AV.ref 4 0::X::AV.ref 6 0::dd 12 (AV.d (D.b v4)::X::X::X::[])),nn 4 (some (OB.box Route.zv)::N::some (OB.box (Held.av v1))::nn 16 ([]))⟩) ?_ ?_
 ·intro k5 h;revert h;refine sel_if ?_ ?_<;>intro h
  ·exact join_end wk h
  ·exact join_end wk h
 ·rintro v4 h;(conv=>whnf);refine .go ?_;revert h;refine sel_if ?_ ?_<;>intro h
  ·cases h;exact ⟨rfl,rfl⟩
  ·cases h;exact ⟨rfl,rfl⟩
theorem ref17_Has_ok {a0:List Community} {a1:Community} {r:Bool} (h:ref17_Has a0 a1=some r):CallsOK Tryz.prog 29 [AV.d (D.l 2 Community.toD a0),AV.d (Community.toD a1)] [] (.d (D.b r)) []:=by
 refine ok Tryz.f29 (by kernel_rfl) (by kernel_rfl) ⟨rfl,?_⟩;unfold ref17_Has at h;refine ⟨a0.length,List.length_map _,?_⟩;revert h;refine cut_join (fun _=>⟨dd 17 ([]),nn 17 ([])⟩) ?_ ?_
 ·intro k1 h;revert h;refine loop_for 7 2 Community.toD rfl (fun i2 _=>⟨X::X::X::AV.ref 3 0::X::X::X::AV.d (D.l 2 Community.toD a0)::AV.d (D.i (a0.length:Int))::AV.d (D.i (i2:Int))::dd 7 ([]),N::N::N::some (OB.box (Community.av a1))::nn 13 ([])⟩) ?_ ?_ ?_
  ·exact wk
  ·rintro _ K3 h;(conv=>whnf);refine .go ?_;(conv=>whnf);refine sel_f lt_f ?_;exact join_end wk h
  ·rintro next4 i2 x5 _ K3 hii2 hxi2 hwi2 h hK6;(conv=>whnf);refine .go ?_;(conv=>whnf);refine sel_t (lt_t hii2) ?_;(conv=>whnf);refine .go ?_;refine ⟨idx_b (f:=Community.toD) hii2,Community.toD x5,hxi2,rfl,?_⟩;(conv=>whnf);refine .go ?_;revert h;refine sel_if ?_ ?_<;>intro h
   ·cases h;exact ⟨rfl,rfl⟩
   ·refine ⟨_,hwi2,?_⟩;exact hK6 _ _ wk h
 ·rintro _ h;cases h;exact ⟨rfl,rfl⟩
theorem ref24_Hole_ok {a0:Attrs} {r:Bool} (h:ref24_Hole a0=some r):CallsOK Tryz.prog 11 [AV.d (Attrs.toD a0)] [] (.d (D.b r)) []:=by
 refine ok Tryz.f11 (by kernel_rfl) (by kernel_rfl) ⟨rfl,?_⟩;unfold ref24_Hole at h;obtain ⟨v1,g2,h⟩:=bind_inv h;refine ⟨_,_,some [],ref17_Has_ok g2,?_⟩;cases h;exact ⟨rfl,rfl⟩
theorem ref17_HasLarge_ok {a0:List Large} {a1:Large} {r:Bool} (h:ref17_HasLarge a0 a1=some r):CallsOK Tryz.prog 121 [AV.d (D.l 3 Large.toD a0),AV.d (Large.toD a1)] [] (.d (D.b r)) []:=by
 refine ok Tryz.f121 (by kernel_rfl) (by kernel_rfl) ⟨rfl,?_⟩;unfold ref17_HasLarge at h;refine ⟨a0.length,List.length_map _,?_⟩;revert h;refine cut_join (fun _=>⟨dd 17 ([]),nn 17 ([])⟩) ?_ ?_
 ·intro k1 h;revert h;refine loop_for 7 3 Large.toD rfl (fun i2 _=>⟨X::X::X::AV.ref 3 0::X::X::X::AV.d (D.l 3 Large.toD a0)::AV.d (D.i (a0.length:Int))::AV.d (D.i (i2:Int))::dd 7 ([]),N::N::N::some (OB.box (Large.av a1))::nn 13 ([])⟩) ?_ ?_ ?_
  ·exact wk
  ·rintro _ K3 h;(conv=>whnf);refine .go ?_;(conv=>whnf);refine sel_f lt_f ?_;exact join_end wk h
  ·rintro next4 i2 x5 _ K3 hii2 hxi2 hwi2 h hK6;(conv=>whnf);refine .go ?_;(conv=>whnf);refine sel_t (lt_t hii2) ?_;(conv=>whnf);refine .go ?_;refine ⟨idx_b (f:=Large.toD) hii2,Large.toD x5,hxi2,rfl,?_⟩;(conv=>whnf);refine .go ?_;revert h;refine sel_if ?_ ?_<;>intro h
   ·cases h;exact ⟨rfl,rfl⟩
   ·refine ⟨_,hwi2,?_⟩;exact hK6 _ _ wk h
 ·rintro _ h;cases h;exact ⟨rfl,rfl⟩
theorem ref26_Prepends_ok {a0:Int} {a1:Attrs} {a2:Int} {r:Int} (h:ref26_Prepends a0 a1 a2=some r):CallsOK Tryz.prog 101 [AV.d (D.i a0),AV.d (Attrs.toD a1),AV.d (D.i a2)] [] (.d (D.i r)) []:=by
 refine ok Tryz.f101 (by kernel_rfl) (by kernel_rfl) ⟨rfl,?_⟩;unfold ref26_Prepends at h;refine ⟨([a2,0]:List Int).length,by first | exact List.length_map _ | rfl | (simp only [List.length_map];omega),?_⟩;revert h;refine cut_join (fun _=>⟨dd 31 ([]),nn 31 ([])⟩) ?_ ?_
 ·intro k1 h;revert h;refine loop_own 11 3 1 false D.i rfl (fun i2 _=>⟨AV.d (D.i a0)::X::X::X::AV.ref 4 0::dd 6 (AV.own 11 (List.map D.i ([a2,0]:List Int)).length::AV.d (D.i (([a2,0]:List Int).length:Int))::AV.d (D.i (i2:Int))::dd 17 ([])),nn 4 (some (OB.box (Attrs.av a1))::nn 6 (some (OB.row 3 1 (List.map D.i ([a2,0]:List Int)) false)::nn 19 ([])))⟩) ?_ ?_ ?_
  ·exact wk
  ·rintro _ K3 h;(conv=>whnf);refine .go ?_;exact join_end wk h
  ·rintro next4 i2 x5 _ K3 hii2 hxi2 hwi2 h hK6;(conv=>whnf);refine .go ?_;(conv=>whnf);refine sel_t (lt_t hii2) ?_;revert h;refine cut_join (fun _=>⟨AV.d (D.i a0)::X::X::X::AV.ref 4 0::dd 6 (AV.own 11 (List.map D.i ([a2,0]:List Int)).length::AV.d (D.i (([a2,0]:List Int).length:Int))::AV.d (D.i (i2:Int))::dd 17 ([])),nn 4 (some (OB.box (Attrs.av a1))::nn 6 (some (OB.row 3 1 (List.map D.i ([a2,0]:List Int)) false)::nn 19 ([])))⟩) ?_ ?_
   ·intro k7 h;refine ⟨rfl,idx_b (f:=D.i) hii2,?_⟩;refine ⟨rfl,D.i x5,hxi2,?_⟩;revert h;refine cut_join (fun _=>⟨AV.d (D.i a0)::X::X::X::AV.ref 4 0::dd 6 (AV.own 11 (List.map D.i ([a2,0]:List Int)).length::AV.d (D.i (([a2,0]:List Int).length:Int))::AV.d (D.i (i2:Int))::dd 17 ([])),nn 4 (some (OB.box (Attrs.av a1))::nn 6 (some (OB.row 3 1 (List.map D.i ([a2,0]:List Int)) false)::nn 19 ([])))⟩) ?_ ?_
    ·intro k8 h;revert h;refine loop_while (fun v9=>⟨AV.d (D.i a0)::X::X::X::AV.ref 4 0::X::X::X::AV.d (D.i x5)::AV.d (D.i v9)::X::AV.own 11 (List.map D.i ([a2,0]:List Int)).length::AV.d (D.i (([a2,0]:List Int).length:Int))::AV.d (D.i (i2:Int))::dd 17 ([]),nn 4 (some (OB.box (Attrs.av a1))::nn 6 (some (OB.row 3 1 (List.map D.i ([a2,0]:List Int)) false)::nn 19 ([])))⟩) ?_ ?_
     ·exact wk
     rintro next10 v9 K11 h hK12;(conv=>whnf);refine .go ?_;revert h;refine sel_if ?_ ?_<;>intro h
     ·(conv=>whnf);refine .go ?_;refine ⟨_,rfl,?_⟩;obtain ⟨v13,g14,h⟩:=bind_inv h;refine ⟨_,_,some [],ref17_HasLarge_ok g14,?_⟩;(conv=>whnf);refine .go ?_;revert h;refine sel_if ?_ ?_<;>intro h
      ·cases h;exact ⟨rfl,rfl⟩
      ·refine ⟨_,rfl,?_⟩;exact hK12 _ _ wk h
     ·exact join_end wk h
    ·rintro _ h;exact join_end wk h
   ·rintro _ h;refine ⟨_,hwi2,?_⟩;exact hK6 _ _ wk h
 ·rintro _ h;cases h;exact ⟨rfl,rfl⟩
theorem ref26_says_ok {a0:Int} {a1:Attrs} {a2:Int} {a3:Int} {a4:Int} {a5:Int} {r:Bool} (h:ref26_says a0 a1 a2 a3 a4 a5=some r):CallsOK Tryz.prog 117 [AV.d (D.i a0),AV.d (Attrs.toD a1),AV.d (D.i a2),AV.d (D.i a3),AV.d (D.i a4),AV.d (D.i a5)] [] (.d (D.b r)) []:=by
 refine ok Tryz.f117 (by kernel_rfl) (by kernel_rfl) ⟨rfl,?_⟩;unfold ref26_says at h;revert h;refine cut_join (fun v1=>⟨dd 12 (AV.d (D.b v1)::dd 23 ([])),nn 36 ([])⟩) ?_ ?_
 ·intro k2 h;revert h;refine sel_if ?_ ?_<;>intro h
  ·revert h;refine sel_if ?_ ?_<;>intro h
   ·obtain ⟨v3,g4,h⟩:=bind_inv h;refine ⟨_,_,some [],ref17_Has_ok g4,?_⟩;revert h;refine sel_if ?_ ?_<;>intro h
    ·exact join_end wk h
    ·obtain ⟨v5,g6,h⟩:=bind_inv h;refine ⟨_,_,some [],ref17_HasLarge_ok g6,?_⟩;exact join_end wk h
   ·obtain ⟨v7,g8,h⟩:=bind_inv h;refine ⟨_,_,some [],ref17_HasLarge_ok g8,?_⟩;exact join_end wk h
  ·obtain ⟨v9,g10,h⟩:=bind_inv h;refine ⟨_,_,some [],ref17_HasLarge_ok g10,?_⟩;exact join_end wk h
 ·rintro v1 h;cases h;exact ⟨rfl,rfl⟩
theorem ref15_Length_ok {a0:List Segment} {r:Int} (h:ref15_Length a0=some r):CallsOK Tryz.prog 118 [AV.d (D.l 2 Segment.toD a0)] [] (.d (D.i r)) []:=by
 refine ok Tryz.f118 (by kernel_rfl) (by kernel_rfl) ⟨rfl,?_⟩;unfold ref15_Length at h;refine ⟨a0.length,List.length_map _,?_⟩;revert h;refine cut_join (fun v1=>⟨X::X::X::AV.d (D.i v1)::dd 19 ([]),nn 23 ([])⟩) ?_ ?_
 ·intro k2 h;revert h;refine loop_for 6 2 Segment.toD rfl (fun i3 v4=>⟨X::X::X::AV.d (D.i v4)::X::X::AV.d (D.l 2 Segment.toD a0)::AV.d (D.i (a0.length:Int))::AV.d (D.i (i3:Int))::dd 14 ([]),nn 23 ([])⟩) ?_ ?_ ?_
  ·exact wk
  ·rintro v4 K5 h;(conv=>whnf);refine .go ?_;(conv=>whnf);refine sel_f lt_f ?_;exact join_end wk h
  ·rintro next6 i3 x7 v4 K5 hii3 hxi3 hwi3 h hK8;(conv=>whnf);refine .go ?_;(conv=>whnf);refine sel_t (lt_t hii3) ?_;(conv=>whnf);refine .go ?_;refine ⟨idx_b (f:=Segment.toD) hii3,Segment.toD x7,hxi3,rfl,?_⟩;revert h;refine cut_join (fun v9=>⟨X::X::X::AV.d (D.i v9)::X::X::AV.d (D.l 2 Segment.toD a0)::AV.d (D.i (a0.length:Int))::AV.d (D.i (i3:Int))::dd 14 ([]),nn 23 ([])⟩) ?_ ?_
   ·intro k10 h;revert h;refine sel_if ?_ ?_<;>intro h
    ·refine ⟨_,rfl,?_⟩;exact join_end wk h
    ·refine ⟨x7.ASNs.length,List.length_map _,?_⟩;refine ⟨_,rfl,?_⟩;exact join_end wk h
   ·rintro v9 h;refine ⟨_,hwi3,?_⟩;exact hK8 _ _ wk h
 ·rintro v1 h;cases h;exact ⟨rfl,rfl⟩
theorem ref15_Has_ok {a0:List Segment} {a1:Int} {r:Bool} (h:ref15_Has a0 a1=some r):CallsOK Tryz.prog 119 [AV.d (D.l 2 Segment.toD a0),AV.d (D.i a1)] [] (.d (D.b r)) []:=by
 refine ok Tryz.f119 (by kernel_rfl) (by kernel_rfl) ⟨rfl,?_⟩;unfold ref15_Has at h;obtain ⟨v1,g2,h⟩:=bind_inv h;refine ⟨_,_,some [],ref15_Flat_ok g2,?_⟩;refine ⟨v1.length,List.length_map _,?_⟩;revert h;refine cut_join (fun _=>⟨dd 18 ([]),nn 18 ([])⟩) ?_ ?_
 ·intro k3 h;revert h;refine loop_for 8 1 D.i rfl (fun i4 _=>⟨X::AV.d (D.i a1)::dd 6 (AV.d (D.l 1 D.i v1)::AV.d (D.i (v1.length:Int))::AV.d (D.i (i4:Int))::dd 7 ([])),nn 18 ([])⟩) ?_ ?_ ?_
  ·exact wk
  ·rintro _ K5 h;(conv=>whnf);refine .go ?_;(conv=>whnf);refine sel_f lt_f ?_;exact join_end wk h
  ·rintro next6 i4 x7 _ K5 hii4 hxi4 hwi4 h hK8;(conv=>whnf);refine .go ?_;(conv=>whnf);refine sel_t (lt_t hii4) ?_;(conv=>whnf);refine .go ?_;refine ⟨idx_b (f:=D.i) hii4,D.i x7,hxi4,rfl,?_⟩;(conv=>whnf);refine .go ?_;revert h;refine sel_if ?_ ?_<;>intro h
   ·cases h;exact ⟨rfl,rfl⟩
   ·refine ⟨_,hwi4,?_⟩;exact hK8 _ _ wk h
 ·rintro _ h;cases h;exact ⟨rfl,rfl⟩
theorem ref26_Verdict_ok {a0:Int} {a1:Route} {a2:Policy} {r:Int} (h:ref26_Verdict a0 a1 a2=some r):CallsOK Tryz.prog 99 [AV.d (D.i a0),AV.d (Route.toD a1),AV.d (Policy.toD a2)] [] (.d (D.i r)) []:=by
 refine ok Tryz.f99 (by kernel_rfl) (by kernel_rfl) ⟨rfl,?_⟩;unfold ref26_Verdict at h;refine ⟨a2.Deny.length,List.length_map _,?_⟩;revert h;refine cut_join (fun v1=>⟨AV.d (D.i a0)::X::X::X::AV.ref 4 0::AV.ref 5 0::X::AV.ref 7 0::AV.d (D.b v1)::dd 108 ([]),nn 4 (some (OB.box (Route.av a1))::some (OB.box (Policy.av a2))::N::some (OB.box (Attrs.av a1.Attrs))::nn 109 ([]))⟩) ?_ ?_
 ·intro k2 h;revert h;refine loop_for 14 1 D.i rfl (fun i3 v4=>⟨AV.d (D.i a0)::X::X::X::AV.ref 4 0::AV.ref 5 0::X::AV.ref 7 0::AV.d (D.b v4)::dd 5 (AV.d (D.l 1 D.i a2.Deny)::AV.d (D.i (a2.Deny.length:Int))::AV.d (D.i (i3:Int))::dd 100 ([])),nn 4 (some (OB.box (Route.av a1))::some (OB.box (Policy.av a2))::N::some (OB.box (Attrs.av a1.Attrs))::nn 109 ([]))⟩) ?_ ?_ ?_
  ·exact wk
  ·rintro v4 K5 h;(conv=>whnf);refine .go ?_;(conv=>whnf);refine sel_f lt_f ?_;exact join_end wk h
  ·rintro next6 i3 x7 v4 K5 hii3 hxi3 hwi3 h hK8;(conv=>whnf);refine .go ?_;(conv=>whnf);refine sel_t (lt_t hii3) ?_;(conv=>whnf);refine .go ?_;refine ⟨idx_b (f:=D.i) hii3,D.i x7,hxi3,rfl,?_⟩;revert h;refine cut_join (fun v9=>⟨AV.d (D.i a0)::X::X::X::AV.ref 4 0::AV.ref 5 0::X::AV.ref 7 0::AV.d (D.b v9)::dd 5 (AV.d (D.l 1 D.i a2.Deny)::AV.d (D.i (a2.Deny.length:Int))::AV.d (D.i (i3:Int))::dd 100 ([])),nn 4 (some (OB.box (Route.av a1))::some (OB.box (Policy.av a2))::N::some (OB.box (Attrs.av a1.Attrs))::nn 109 ([]))⟩) ?_ ?_
   ·intro k10 h;revert h;refine sel_if ?_ ?_<;>intro h
    ·exact join_end wk h
    ·exact join_end wk h
   ·rintro v9 h;refine ⟨_,hwi3,?_⟩;exact hK8 _ _ wk h
 ·rintro v1 h;(conv=>whnf);refine .go ?_;(conv=>whnf);refine .go ?_;revert h;refine sel_if ?_ ?_<;>intro h
  ·cases h;exact ⟨rfl,rfl⟩
  ·obtain ⟨v11,g12,h⟩:=bind_inv h;refine ⟨_,_,some [],ref17_Has_ok g12,?_⟩;(conv=>whnf);refine .go ?_;revert h;refine sel_if ?_ ?_<;>intro h
   ·cases h;exact ⟨rfl,rfl⟩
   ·obtain ⟨v13,g14,h⟩:=bind_inv h;refine ⟨_,_,some [],ref26_says_ok g14,?_⟩;(conv=>whnf);refine .go ?_;revert h;refine sel_if ?_ ?_<;>intro h
    ·cases h;exact ⟨rfl,rfl⟩
    ·revert h;refine cut_join (fun v15=>⟨AV.d (D.i a0)::X::X::X::AV.ref 4 0::AV.ref 5 0::X::AV.ref 7 0::AV.d (D.b v1)::dd 38 (AV.d (D.b v15)::dd 69 ([])),nn 4 (some (OB.box (Route.av a1))::some (OB.box (Policy.av a2))::N::some (OB.box (Attrs.av a1.Attrs))::nn 109 ([]))⟩) ?_ ?_
     ·intro k16 h;obtain ⟨v17,g18,h⟩:=bind_inv h;refine ⟨_,_,some [],ref26_says_ok g18,?_⟩;revert h;refine sel_if ?_ ?_<;>intro h
      ·obtain ⟨v19,g20,h⟩:=bind_inv h;refine ⟨_,_,some [],ref26_says_ok g20,?_⟩;exact join_end wk h
      ·exact join_end wk h
     ·rintro v15 h;(conv=>whnf);refine .go ?_;revert h;refine sel_if ?_ ?_<;>intro h
      ·cases h;exact ⟨rfl,rfl⟩
      ·revert h;refine cut_join (fun v21=>⟨AV.d (D.i a0)::dd 4 (AV.ref 5 0::X::AV.ref 7 0::AV.d (D.b v1)::dd 54 (AV.d (D.b v21)::dd 53 ([]))),nn 5 (some (OB.box (Policy.av a2))::N::some (OB.box (Attrs.av a1.Attrs))::nn 109 ([]))⟩) ?_ ?_
       ·intro k22 h;revert h;refine sel_if ?_ ?_<;>intro h
        ·revert h;refine sel_if ?_ ?_<;>intro h
         ·exact join_end wk h
         ·revert h;refine sel_if ?_ ?_<;>intro h
          ·exact join_end wk h
          ·exact join_end wk h
        ·revert h;refine sel_if ?_ ?_<;>intro h
         ·exact join_end wk h
         ·exact join_end wk h
       ·rintro v21 h;(conv=>whnf);refine .go ?_;revert h;refine sel_if ?_ ?_<;>intro h
        ·cases h;exact ⟨rfl,rfl⟩
        ·(conv=>whnf);refine .go ?_;revert h;refine sel_if ?_ ?_<;>intro h
         ·cases h;exact ⟨rfl,rfl⟩
         ·revert h;refine cut_join (fun v23=>⟨AV.d (D.i a0)::dd 4 (AV.ref 5 0::X::AV.ref 7 0::dd 77 (AV.d (D.b v23)::dd 31 ([]))),nn 5 (some (OB.box (Policy.av a2))::N::some (OB.box (Attrs.av a1.Attrs))::nn 109 ([]))⟩) ?_ ?_
          ·intro k24 h;obtain ⟨v25,g26,h⟩:=bind_inv h;refine ⟨_,_,some [],ref24_Hole_ok g26,?_⟩;revert h;refine sel_if ?_ ?_<;>intro h
           ·exact join_end wk h
           ·exact join_end wk h
          ·rintro v23 h;(conv=>whnf);refine .go ?_;revert h;refine sel_if ?_ ?_<;>intro h
           ·cases h;exact ⟨rfl,rfl⟩
           ·revert h;refine cut_join (fun v27=>⟨dd 5 (AV.ref 5 0::X::AV.ref 7 0::dd 85 (AV.d (D.b v27)::dd 23 ([]))),nn 5 (some (OB.box (Policy.av a2))::N::some (OB.box (Attrs.av a1.Attrs))::nn 109 ([]))⟩) ?_ ?_
            ·intro k28 h;(conv=>whnf);refine dOB (by kernel_rfl) ?_;revert h;refine sel_if ?_ ?_<;>intro h
             ·obtain ⟨v29,g30,h⟩:=bind_inv h;refine ⟨_,_,ref15_Length_ok g30,.inl rfl,?_⟩;obtain ⟨v31,g32,h⟩:=bind_inv h;refine ⟨_,_,ref26_Prepends_ok g32,.inl rfl,?_⟩;refine ⟨_,rfl,?_⟩;(conv=>whnf);refine cOB (by kernel_rfl) ?_;exact join_end wk h
             ·(conv=>whnf);refine cOB (by kernel_rfl) ?_;exact join_end wk h
            ·rintro v27 h;(conv=>whnf);refine .go ?_;revert h;refine sel_if ?_ ?_<;>intro h
             ·cases h;exact ⟨rfl,rfl⟩
             ·obtain ⟨v33,g34,h⟩:=bind_inv h;refine ⟨_,_,some [],ref15_Has_ok g34,?_⟩;(conv=>whnf);refine .go ?_;revert h;refine sel_if ?_ ?_<;>intro h
              ·cases h;exact ⟨rfl,rfl⟩
              ·cases h;exact ⟨rfl,rfl⟩
theorem ref15_Copy_ok {a0:List Segment} {r:(List Segment)} (h:ref15_Copy a0=some r):CallsOK Tryz.prog 120 [AV.d (D.l 2 Segment.toD a0)] [] (.d (D.l 2 Segment.toD r)) []:=by
 refine ok Tryz.f120 (by kernel_rfl) (by kernel_rfl) ⟨rfl,?_⟩;unfold ref15_Copy at h;refine ⟨a0.length,List.length_map _,?_⟩;revert h;refine cut_join (fun v1=>⟨X::X::X::AV.own 3 (List.map Segment.toD v1).length::dd 19 ([]),N::N::N::some (OB.row 133 2 (List.map Segment.toD v1) false)::nn 19 ([])⟩) ?_ ?_
 ·intro k2 h;revert h;refine loop_for 6 2 Segment.toD rfl (fun i3 v4=>⟨X::X::X::AV.own 3 (List.map Segment.toD v4).length::X::X::AV.d (D.l 2 Segment.toD a0)::AV.d (D.i (a0.length:Int))::AV.d (D.i (i3:Int))::dd 14 ([]),N::N::N::some (OB.row 133 2 (List.map Segment.toD v4) false)::nn 19 ([])⟩) ?_ ?_ ?_
  ·exact wk
  ·rintro v4 K5 h;(conv=>whnf);refine .go ?_;(conv=>whnf);refine sel_f lt_f ?_;exact join_end wk h
  ·rintro next6 i3 x7 v4 K5 hii3 hxi3 hwi3 h hK8;(conv=>whnf);refine .go ?_;(conv=>whnf);refine sel_t (lt_t hii3) ?_;(conv=>whnf);refine .go ?_;refine ⟨idx_b (f:=Segment.toD) hii3,Segment.toD x7,hxi3,rfl,?_⟩;(conv=>whnf);refine dOB (by kernel_rfl) ?_;obtain ⟨_,g9,h⟩:=bind_inv h;refine ⟨apnd_b0 (g:=D.i) g9,?_⟩;(conv=>whnf);refine .inl ?_;refine ⟨rfl,?_⟩;refine ⟨rfl,?_⟩;obtain ⟨v10,g11,h⟩:=bind_inv h;refine ⟨rfl,apnd_b (f:=Segment.toD) (g:=Segment.toD) g11,_,apnd_z (f:=Segment.toD) g11,?_⟩;(conv=>whnf);refine cOB (by kernel_rfl) ?_;refine ⟨_,hwi3,?_⟩;exact hK8 _ _ wk h
 ·rintro v1 h;(conv=>whnf);refine .inl ?_;refine ⟨rfl,?_⟩;cases h;exact ⟨rfl,rfl⟩
end Go.AX.Q35
end
section
namespace Go.AX.Q35
open Go Go.AX Go.Proofs
set_option maxRecDepth 100000
set_option maxHeartbeats 4000000
set_option linter.unusedVariables false
theorem ref15_Prepend_ok {a0:List Segment} {a1:Int} {a2:Int} {r:(List Segment)×Int} (h:ref15_Prepend a0 a1 a2=some r):CallsOK Tryz.prog 100 [AV.d (D.l 2 Segment.toD a0),AV.d (D.i a1),AV.d (D.i a2)] [] (.tup [.d (D.l 2 Segment.toD r.1),.d (D.i r.2)]) []:=by
 refine ok Tryz.f100 (by kernel_rfl) (by kernel_rfl) ⟨rfl,?_⟩;unfold ref15_Prepend at h;(conv=>whnf);refine .go ?_;revert h;refine cut_join (fun v1=>⟨AV.d (D.l 2 Segment.toD a0)::AV.d (D.i a1)::AV.d (D.i a2)::dd 7 (AV.d (D.b v1)::dd 64 ([])),nn 75 ([])⟩) ?_ ?_
 ·intro k2 h;obtain ⟨v3,g4,h⟩:=bind_inv h;refine ⟨_,_,some [],ref15_Valid_ok g4,?_⟩;revert h;refine sel_if ?_ ?_<;>intro h
  ·exact join_end wk h
  ·revert h;refine sel_if ?_ ?_<;>intro h
   ·exact join_end wk h
   ·revert h;refine sel_if ?_ ?_<;>intro h
    ·exact join_end wk h
    ·exact join_end wk h
 ·rintro v1 h;(conv=>whnf);refine .go ?_;revert h;refine sel_if ?_ ?_<;>intro h
  ·(conv=>whnf);refine .inl ?_;refine ⟨rfl,?_⟩;cases h;exact ⟨rfl,rfl⟩
  ·obtain ⟨v5,g6,h⟩:=bind_inv h;refine ⟨_,_,some [],ref15_Flat_ok g6,?_⟩;refine ⟨v5.length,List.length_map _,?_⟩;refine ⟨_,rfl,?_⟩;(conv=>whnf);refine .go ?_;revert h;refine sel_if ?_ ?_<;>intro h
   ·(conv=>whnf);refine .inl ?_;refine ⟨rfl,?_⟩;cases h;exact ⟨rfl,rfl⟩
   ·(conv=>whnf);refine .go ?_;revert h;refine sel_if ?_ ?_<;>intro h
    ·obtain ⟨v7,g8,h⟩:=bind_inv h;refine ⟨_,_,some [],ref15_Copy_ok g8,?_⟩;cases h;exact ⟨rfl,rfl⟩
    ·revert h;refine cut_join (fun v9=>⟨AV.d (D.l 2 Segment.toD a0)::dd 7 (AV.ref 8 0::dd 66 ([])),nn 8 (some (OB.box [AV.d (D.b false),AV.own 46 (List.map D.i v9).length])::nn 37 (some (OB.row 3 1 (List.map D.i v9) false)::nn 28 ([])))⟩) ?_ ?_
     ·intro k10 h;revert h;refine loop_while (fun (v11,v12)=>⟨AV.d (D.l 2 Segment.toD a0)::AV.d (D.i a1)::dd 6 (AV.ref 8 0::dd 30 (AV.d (D.i a2)::AV.d (D.i v11)::dd 34 ([]))),nn 8 (some (OB.box [AV.d (D.b false),AV.own 46 (List.map D.i v12).length])::nn 37 (some (OB.row 3 1 (List.map D.i v12) false)::nn 28 ([])))⟩) ?_ ?_
      ·exact wk
      rintro next13 ⟨v11,v12⟩ K14 h hK15;(conv=>whnf);refine .go ?_;revert h;refine sel_if ?_ ?_<;>intro h
      ·(conv=>whnf);refine .go ?_;refine ⟨rfl,?_⟩;obtain ⟨v16,g17,h⟩:=bind_inv h;refine ⟨rfl,apnd_b (f:=D.i) (g:=D.i) g17,_,apnd_z (f:=D.i) g17,?_⟩;refine ⟨_,rfl,?_⟩;exact hK15 _ _ wk h
      ·exact join_end wk h
     ·rintro v9 h;obtain ⟨v18,g19,h⟩:=bind_inv h;refine ⟨_,_,some [],ref15_Copy_ok g19,?_⟩;revert h;refine cut_join (fun v20=>⟨dd 8 (AV.ref 8 0::AV.d (D.l 2 Segment.toD v18)::dd 50 (AV.d (D.b v20)::dd 14 ([]))),nn 8 (some (OB.box [AV.d (D.b false),AV.own 46 (List.map D.i v9).length])::nn 37 (some (OB.row 3 1 (List.map D.i v9) false)::nn 28 ([])))⟩) ?_ ?_
      ·intro k21 h;refine ⟨v18.length,List.length_map _,?_⟩;revert h;refine sel_if ?_ ?_<;>intro h
       ·obtain ⟨v22,g23,h⟩:=bind_inv h;refine ⟨geti_b (f:=Segment.toD) g23,Segment.toD v22,geti_d (f:=Segment.toD) g23,rfl,?_⟩;exact join_end wk h
       ·exact join_end wk h
      ·rintro v20 h;revert h;refine cut_join (fun (v24,v25)=>⟨dd 8 (AV.ref 8 0::AV.d (D.l 2 Segment.toD v24)::dd 65 ([])),nn 8 (some (OB.box [AV.d (D.b false),AV.own 46 (List.map D.i v25).length])::nn 37 (some (OB.row 3 1 (List.map D.i v25) false)::nn 28 ([])))⟩) ?_ ?_
       ·intro k26 h;revert h;refine sel_if ?_ ?_<;>intro h
        ·(conv=>whnf);refine dOB (by kernel_rfl) ?_;obtain ⟨v27,g28,h⟩:=bind_inv h;refine ⟨geti_b (f:=Segment.toD) g28,Segment.toD v27,geti_d (f:=Segment.toD) g28,rfl,?_⟩;obtain ⟨v29,g30,h⟩:=bind_inv h;refine ⟨rfl,apnd_b (f:=D.i) (g:=D.i) g30,_,apnd_z (f:=D.i) g30,?_⟩;obtain ⟨v31,g32,h⟩:=bind_inv h;refine ⟨part_b0 (f:=Segment.toD) g32,_,part_z0 (f:=Segment.toD) g32,?_⟩;(conv=>whnf);refine cOB (by kernel_rfl) ?_;exact join_end wk h
        ·exact join_end wk h
       ·rintro ⟨v24,v25⟩ h;(conv=>whnf);refine .inl ?_;refine ⟨rfl,?_⟩;obtain ⟨v33,g34,h⟩:=bind_inv h;refine ⟨rfl,apnd_b (f:=Segment.toD) (g:=Segment.toD) g34,_,apnd_z (f:=Segment.toD) g34,?_⟩;(conv=>whnf);refine .inl ?_;refine ⟨rfl,?_⟩;cases h;exact ⟨rfl,rfl⟩
theorem ref23_CopyAttrs_ok {a0:Attrs} {r:Attrs} (h:ref23_CopyAttrs a0=some r):CallsOK Tryz.prog 89 [AV.d (Attrs.toD a0)] [] (.d (Attrs.toD r)) []:=by
 refine ok Tryz.f89 (by kernel_rfl) (by kernel_rfl) ⟨rfl,?_⟩;unfold ref23_CopyAttrs at h;refine ⟨a0.Path.length,List.length_map _,?_⟩;revert h;refine cut_join (fun v1=>⟨X::AV.ref 1 0::AV.ref 2 0::AV.ref 3 0::dd 56 ([]),N::some (OB.box (Attrs.av a0))::some (OB.box Attrs.zv)::some (OB.box [AV.d (D.i a0.Origin),AV.own 27 (List.map Segment.toD v1).length,AV.d (D.b a0.Next.V6),AV.d (D.u64 a0.Next.Hi),AV.d (D.u64 a0.Next.Lo),AV.d (D.i a0.MED),AV.d (D.i a0.Pref),AV.d (D.i a0.OTC),AV.d (D.l 2 Community.toD a0.Communities),AV.d (D.l 3 Large.toD a0.Large),AV.d (D.nil 3)])::nn 23 (some (OB.row 133 2 (List.map Segment.toD v1) false)::nn 32 ([]))⟩) ?_ ?_
 ·intro k2 h;revert h;refine loop_for 12 2 Segment.toD rfl (fun i3 v4=>⟨X::AV.ref 1 0::AV.ref 2 0::AV.ref 3 0::dd 8 (AV.d (D.l 2 Segment.toD a0.Path)::AV.d (D.i (a0.Path.length:Int))::AV.d (D.i (i3:Int))::dd 45 ([])),N::some (OB.box (Attrs.av a0))::some (OB.box Attrs.zv)::some (OB.box [AV.d (D.i a0.Origin),AV.own 27 (List.map Segment.toD v4).length,AV.d (D.b a0.Next.V6),AV.d (D.u64 a0.Next.Hi),AV.d (D.u64 a0.Next.Lo),AV.d (D.i a0.MED),AV.d (D.i a0.Pref),AV.d (D.i a0.OTC),AV.d (D.l 2 Community.toD a0.Communities),AV.d (D.l 3 Large.toD a0.Large),AV.d (D.nil 3)])::nn 23 (some (OB.row 133 2 (List.map Segment.toD v4) false)::nn 32 ([]))⟩) ?_ ?_ ?_
  ·exact wk
  ·rintro v4 K5 h;(conv=>whnf);refine .go ?_;(conv=>whnf);refine sel_f lt_f ?_;exact join_end wk h
  ·rintro next6 i3 x7 v4 K5 hii3 hxi3 hwi3 h hK8;(conv=>whnf);refine .go ?_;(conv=>whnf);refine sel_t (lt_t hii3) ?_;(conv=>whnf);refine .go ?_;refine ⟨idx_b (f:=Segment.toD) hii3,Segment.toD x7,hxi3,rfl,?_⟩;(conv=>whnf);refine dOB (by kernel_rfl) ?_;obtain ⟨_,g9,h⟩:=bind_inv h;refine ⟨apnd_b0 (g:=D.i) g9,?_⟩;(conv=>whnf);refine .inl ?_;refine ⟨rfl,?_⟩;refine ⟨rfl,?_⟩;obtain ⟨v10,g11,h⟩:=bind_inv h;refine ⟨rfl,apnd_b (f:=Segment.toD) (g:=Segment.toD) g11,_,apnd_z (f:=Segment.toD) g11,?_⟩;(conv=>whnf);refine cOB (by kernel_rfl) ?_;refine ⟨_,hwi3,?_⟩;exact hK8 _ _ wk h
 ·rintro v1 h;obtain ⟨_,g12,h⟩:=bind_inv h;refine ⟨apnd_b0 (g:=Community.toD) g12,?_⟩;obtain ⟨_,g13,h⟩:=bind_inv h;refine ⟨apnd_b0 (g:=Large.toD) g13,?_⟩;refine ⟨a0.Other.length,List.length_map _,?_⟩;revert h;refine cut_join (fun v14=>⟨X::X::AV.ref 2 0::AV.ref 3 0::dd 56 ([]),N::N::some (OB.box Attrs.zv)::some (OB.box [AV.d (D.i a0.Origin),AV.own 27 (List.map Segment.toD v1).length,AV.d (D.b a0.Next.V6),AV.d (D.u64 a0.Next.Hi),AV.d (D.u64 a0.Next.Lo),AV.d (D.i a0.MED),AV.d (D.i a0.Pref),AV.d (D.i a0.OTC),AV.own 32 (List.map Community.toD a0.Communities).length,AV.own 36 (List.map Large.toD a0.Large).length,AV.own 56 (List.map Unknown.toD v14).length])::nn 23 (some (OB.row 133 2 (List.map Segment.toD v1) false)::nn 4 (some (OB.row 95 2 (List.map Community.toD a0.Communities) false)::N::N::N::some (OB.row 136 3 (List.map Large.toD a0.Large) false)::nn 19 (some (OB.row 138 3 (List.map Unknown.toD v14) false)::N::N::N::[])))⟩) ?_ ?_
  ·intro k15 h;revert h;refine loop_for 39 3 Unknown.toD rfl (fun i16 v17=>⟨X::X::AV.ref 2 0::AV.ref 3 0::dd 35 (AV.d (D.l 3 Unknown.toD a0.Other)::AV.d (D.i (a0.Other.length:Int))::AV.d (D.i (i16:Int))::dd 18 ([])),N::N::some (OB.box Attrs.zv)::some (OB.box [AV.d (D.i a0.Origin),AV.own 27 (List.map Segment.toD v1).length,AV.d (D.b a0.Next.V6),AV.d (D.u64 a0.Next.Hi),AV.d (D.u64 a0.Next.Lo),AV.d (D.i a0.MED),AV.d (D.i a0.Pref),AV.d (D.i a0.OTC),AV.own 32 (List.map Community.toD a0.Communities).length,AV.own 36 (List.map Large.toD a0.Large).length,AV.own 56 (List.map Unknown.toD v17).length])::nn 23 (some (OB.row 133 2 (List.map Segment.toD v1) false)::nn 4 (some (OB.row 95 2 (List.map Community.toD a0.Communities) false)::N::N::N::some (OB.row 136 3 (List.map Large.toD a0.Large) false)::nn 19 (some (OB.row 138 3 (List.map Unknown.toD v17) false)::N::N::N::[])))⟩) ?_ ?_ ?_
   ·exact wk
   ·rintro v17 K18 h;(conv=>whnf);refine .go ?_;(conv=>whnf);refine sel_f lt_f ?_;exact join_end wk h
   ·rintro next19 i16 x20 v17 K18 hii16 hxi16 hwi16 h hK21;(conv=>whnf);refine .go ?_;(conv=>whnf);refine sel_t (lt_t hii16) ?_;(conv=>whnf);refine .go ?_;refine ⟨idx_b (f:=Unknown.toD) hii16,Unknown.toD x20,hxi16,rfl,?_⟩;(conv=>whnf);refine dOB (by kernel_rfl) ?_;obtain ⟨_,g22,h⟩:=bind_inv h;refine ⟨apnd_b0 (g:=D.u8) g22,?_⟩;(conv=>whnf);refine .inl ?_;refine ⟨rfl,?_⟩;refine ⟨rfl,?_⟩;obtain ⟨v23,g24,h⟩:=bind_inv h;refine ⟨rfl,apnd_b (f:=Unknown.toD) (g:=Unknown.toD) g24,_,apnd_z (f:=Unknown.toD) g24,?_⟩;(conv=>whnf);refine cOB (by kernel_rfl) ?_;refine ⟨_,hwi16,?_⟩;exact hK21 _ _ wk h
  ·rintro v14 h;(conv=>whnf);refine .inl ?_;refine ⟨rfl,?_⟩;refine ⟨rfl,?_⟩;refine ⟨rfl,?_⟩;refine ⟨rfl,?_⟩;cases h;exact ⟨rfl,rfl⟩
theorem ref26_Strip_ok {a0:Int} {a1:Attrs} {r:Attrs} (h:ref26_Strip a0 a1=some r):CallsOK Tryz.prog 102 [AV.d (D.i a0),AV.d (Attrs.toD a1)] [] (.d (Attrs.toD r)) []:=by
 refine ok Tryz.f102 (by kernel_rfl) (by kernel_rfl) ⟨rfl,?_⟩;unfold ref26_Strip at h;obtain ⟨v1,g2,h⟩:=bind_inv h;refine ⟨_,_,some [],ref23_CopyAttrs_ok g2,?_⟩;refine ⟨a1.Communities.length,List.length_map _,?_⟩;revert h;refine cut_join (fun v3=>⟨AV.d (D.i a0)::X::X::AV.ref 3 0::AV.ref 4 0::AV.ref 5 0::dd 50 ([]),N::N::N::some (OB.box (Attrs.av a1))::some (OB.box Attrs.zv)::some (OB.box [AV.d (D.i v1.Origin),AV.d (D.l 2 Segment.toD v1.Path),AV.d (D.b v1.Next.V6),AV.d (D.u64 v1.Next.Hi),AV.d (D.u64 v1.Next.Lo),AV.d (D.i v1.MED),AV.d (D.i v1.Pref),AV.d (D.i v1.OTC),AV.own 34 (List.map Community.toD v3).length,AV.d (D.nil 3),AV.d (D.l 3 Unknown.toD v1.Other)])::nn 28 (some (OB.row 95 2 (List.map Community.toD v3) false)::nn 21 ([]))⟩) ?_ ?_
 ·intro k4 h;revert h;refine loop_for 15 2 Community.toD rfl (fun i5 v6=>⟨AV.d (D.i a0)::X::X::AV.ref 3 0::AV.ref 4 0::AV.ref 5 0::dd 9 (AV.d (D.l 2 Community.toD a1.Communities)::AV.d (D.i (a1.Communities.length:Int))::AV.d (D.i (i5:Int))::dd 38 ([])),N::N::N::some (OB.box (Attrs.av a1))::some (OB.box Attrs.zv)::some (OB.box [AV.d (D.i v1.Origin),AV.d (D.l 2 Segment.toD v1.Path),AV.d (D.b v1.Next.V6),AV.d (D.u64 v1.Next.Hi),AV.d (D.u64 v1.Next.Lo),AV.d (D.i v1.MED),AV.d (D.i v1.Pref),AV.d (D.i v1.OTC),AV.own 34 (List.map Community.toD v6).length,AV.d (D.nil 3),AV.d (D.l 3 Unknown.toD v1.Other)])::nn 28 (some (OB.row 95 2 (List.map Community.toD v6) false)::nn 21 ([]))⟩) ?_ ?_ ?_
  ·exact wk
  ·rintro v6 K7 h;(conv=>whnf);refine .go ?_;(conv=>whnf);refine sel_f lt_f ?_;exact join_end wk h
  ·rintro next8 i5 x9 v6 K7 hii5 hxi5 hwi5 h hK10;(conv=>whnf);refine .go ?_;(conv=>whnf);refine sel_t (lt_t hii5) ?_;(conv=>whnf);refine .go ?_;refine ⟨idx_b (f:=Community.toD) hii5,Community.toD x9,hxi5,rfl,?_⟩;revert h;refine cut_join (fun v11=>⟨AV.d (D.i a0)::X::X::AV.ref 3 0::AV.ref 4 0::AV.ref 5 0::X::AV.ref 7 0::dd 7 (AV.d (D.l 2 Community.toD a1.Communities)::AV.d (D.i (a1.Communities.length:Int))::AV.d (D.i (i5:Int))::dd 11 (AV.d (D.b v11)::dd 26 ([]))),N::N::N::some (OB.box (Attrs.av a1))::some (OB.box Attrs.zv)::some (OB.box [AV.d (D.i v1.Origin),AV.d (D.l 2 Segment.toD v1.Path),AV.d (D.b v1.Next.V6),AV.d (D.u64 v1.Next.Hi),AV.d (D.u64 v1.Next.Lo),AV.d (D.i v1.MED),AV.d (D.i v1.Pref),AV.d (D.i v1.OTC),AV.own 34 (List.map Community.toD v6).length,AV.d (D.nil 3),AV.d (D.l 3 Unknown.toD v1.Other)])::N::some (OB.box (Community.av x9))::nn 26 (some (OB.row 95 2 (List.map Community.toD v6) false)::nn 21 ([]))⟩) ?_ ?_
   ·intro k12 h;revert h;refine sel_if ?_ ?_<;>intro h
    ·exact join_end wk h
    ·exact join_end wk h
   ·rintro v11 h;revert h;refine cut_join (fun v13=>⟨AV.d (D.i a0)::X::X::AV.ref 3 0::AV.ref 4 0::AV.ref 5 0::dd 9 (AV.d (D.l 2 Community.toD a1.Communities)::AV.d (D.i (a1.Communities.length:Int))::AV.d (D.i (i5:Int))::dd 38 ([])),N::N::N::some (OB.box (Attrs.av a1))::some (OB.box Attrs.zv)::some (OB.box [AV.d (D.i v1.Origin),AV.d (D.l 2 Segment.toD v1.Path),AV.d (D.b v1.Next.V6),AV.d (D.u64 v1.Next.Hi),AV.d (D.u64 v1.Next.Lo),AV.d (D.i v1.MED),AV.d (D.i v1.Pref),AV.d (D.i v1.OTC),AV.own 34 (List.map Community.toD v13).length,AV.d (D.nil 3),AV.d (D.l 3 Unknown.toD v1.Other)])::nn 28 (some (OB.row 95 2 (List.map Community.toD v13) false)::nn 21 ([]))⟩) ?_ ?_
    ·intro k14 h;revert h;refine sel_if ?_ ?_<;>intro h
     ·refine ⟨rfl,?_⟩;obtain ⟨v15,g16,h⟩:=bind_inv h;refine ⟨rfl,apnd_b (f:=Community.toD) (g:=Community.toD) g16,_,apnd_z (f:=Community.toD) g16,?_⟩;exact join_end wk h
     ·exact join_end wk h
    ·rintro v13 h;refine ⟨_,hwi5,?_⟩;exact hK10 _ _ wk h
 ·rintro v3 h;refine ⟨a1.Large.length,List.length_map _,?_⟩;revert h;refine cut_join (fun v17=>⟨dd 4 (AV.ref 4 0::AV.ref 5 0::dd 50 ([])),nn 4 (some (OB.box Attrs.zv)::some (OB.box [AV.d (D.i v1.Origin),AV.d (D.l 2 Segment.toD v1.Path),AV.d (D.b v1.Next.V6),AV.d (D.u64 v1.Next.Hi),AV.d (D.u64 v1.Next.Lo),AV.d (D.i v1.MED),AV.d (D.i v1.Pref),AV.d (D.i v1.OTC),AV.own 34 (List.map Community.toD v3).length,AV.own 52 (List.map Large.toD v17).length,AV.d (D.l 3 Unknown.toD v1.Other)])::nn 28 (some (OB.row 95 2 (List.map Community.toD v3) false)::nn 17 (some (OB.row 136 3 (List.map Large.toD v17) false)::N::N::N::[])))⟩) ?_ ?_
  ·intro k18 h;revert h;refine loop_for 38 3 Large.toD rfl (fun i19 v20=>⟨AV.d (D.i a0)::X::X::X::AV.ref 4 0::AV.ref 5 0::dd 32 (AV.d (D.l 3 Large.toD a1.Large)::AV.d (D.i (a1.Large.length:Int))::AV.d (D.i (i19:Int))::dd 15 ([])),nn 4 (some (OB.box Attrs.zv)::some (OB.box [AV.d (D.i v1.Origin),AV.d (D.l 2 Segment.toD v1.Path),AV.d (D.b v1.Next.V6),AV.d (D.u64 v1.Next.Hi),AV.d (D.u64 v1.Next.Lo),AV.d (D.i v1.MED),AV.d (D.i v1.Pref),AV.d (D.i v1.OTC),AV.own 34 (List.map Community.toD v3).length,AV.own 52 (List.map Large.toD v20).length,AV.d (D.l 3 Unknown.toD v1.Other)])::nn 28 (some (OB.row 95 2 (List.map Community.toD v3) false)::nn 17 (some (OB.row 136 3 (List.map Large.toD v20) false)::N::N::N::[])))⟩) ?_ ?_ ?_
   ·exact wk
   ·rintro v20 K21 h;(conv=>whnf);refine .go ?_;(conv=>whnf);refine sel_f lt_f ?_;exact join_end wk h
   ·rintro next22 i19 x23 v20 K21 hii19 hxi19 hwi19 h hK24;(conv=>whnf);refine .go ?_;(conv=>whnf);refine sel_t (lt_t hii19) ?_;(conv=>whnf);refine .go ?_;refine ⟨idx_b (f:=Large.toD) hii19,Large.toD x23,hxi19,rfl,?_⟩;revert h;refine cut_join (fun v25=>⟨AV.d (D.i a0)::X::X::X::AV.ref 4 0::AV.ref 5 0::dd 32 (AV.d (D.l 3 Large.toD a1.Large)::AV.d (D.i (a1.Large.length:Int))::AV.d (D.i (i19:Int))::dd 15 ([])),nn 4 (some (OB.box Attrs.zv)::some (OB.box [AV.d (D.i v1.Origin),AV.d (D.l 2 Segment.toD v1.Path),AV.d (D.b v1.Next.V6),AV.d (D.u64 v1.Next.Hi),AV.d (D.u64 v1.Next.Lo),AV.d (D.i v1.MED),AV.d (D.i v1.Pref),AV.d (D.i v1.OTC),AV.own 34 (List.map Community.toD v3).length,AV.own 52 (List.map Large.toD v25).length,AV.d (D.l 3 Unknown.toD v1.Other)])::nn 28 (some (OB.row 95 2 (List.map Community.toD v3) false)::nn 17 (some (OB.row 136 3 (List.map Large.toD v25) false)::N::N::N::[])))⟩) ?_ ?_
    ·intro k26 h;revert h;refine sel_if ?_ ?_<;>intro h
     ·refine ⟨rfl,?_⟩;obtain ⟨v27,g28,h⟩:=bind_inv h;refine ⟨rfl,apnd_b (f:=Large.toD) (g:=Large.toD) g28,_,apnd_z (f:=Large.toD) g28,?_⟩;exact join_end wk h
     ·exact join_end wk h
    ·rintro v25 h;refine ⟨_,hwi19,?_⟩;exact hK24 _ _ wk h
  ·rintro v17 h;(conv=>whnf);refine .inl ?_;refine ⟨rfl,?_⟩;refine ⟨rfl,?_⟩;cases h;exact ⟨rfl,rfl⟩
theorem ref23_Inverse_ok {a0:Int} {r:Int} (h:ref23_Inverse a0=some r):CallsOK Tryz.prog 145 [AV.d (D.i a0)] [] (.d (D.i r)) []:=by
 refine ok Tryz.f145 (by kernel_rfl) (by kernel_rfl) ⟨rfl,?_⟩;unfold ref23_Inverse at h;(conv=>whnf);refine .go ?_;(conv=>whnf);refine .go ?_;revert h;refine sel_if ?_ ?_<;>intro h
 ·cases h;exact ⟨rfl,rfl⟩
 ·(conv=>whnf);refine .go ?_;revert h;refine sel_if ?_ ?_<;>intro h
  ·cases h;exact ⟨rfl,rfl⟩
  ·(conv=>whnf);refine .go ?_;revert h;refine sel_if ?_ ?_<;>intro h
   ·cases h;exact ⟨rfl,rfl⟩
   ·(conv=>whnf);refine .go ?_;revert h;refine sel_if ?_ ?_<;>intro h
    ·cases h;exact ⟨rfl,rfl⟩
    ·(conv=>whnf);refine .go ?_;revert h;refine sel_if ?_ ?_<;>intro h
     ·cases h;exact ⟨rfl,rfl⟩
     ·cases h;exact ⟨rfl,rfl⟩
theorem ref23_bad_ok {a0:Int} {a1:Int} {r:Bool} (h:ref23_bad a0 a1=some r):CallsOK Tryz.prog 122 [AV.d (D.i a0),AV.d (D.i a1)] [] (.d (D.b r)) []:=by
 refine ok Tryz.f122 (by kernel_rfl) (by kernel_rfl) ⟨rfl,?_⟩;unfold ref23_bad at h;revert h;refine cut_join (fun v1=>⟨dd 4 (AV.d (D.b v1)::dd 11 ([])),nn 16 ([])⟩) ?_ ?_
 ·intro k2 h;obtain ⟨v3,g4,h⟩:=bind_inv h;refine ⟨_,_,some [],ref23_Inverse_ok g4,?_⟩;revert h;refine sel_if ?_ ?_<;>intro h
  ·exact join_end wk h
  ·revert h;refine sel_if ?_ ?_<;>intro h
   ·exact join_end wk h
   ·exact join_end wk h
 ·rintro v1 h;cases h;exact ⟨rfl,rfl⟩
theorem ref23_Send_ok {a0:Int} {a1:Int} {a2:Attrs} {r:Attrs×Int} (h:ref23_Send a0 a1 a2=some r):CallsOK Tryz.prog 103 [AV.d (D.i a0),AV.d (D.i a1),AV.d (Attrs.toD a2)] [] (.tup [.d (Attrs.toD r.1),.d (D.i r.2)]) []:=by
 refine ok Tryz.f103 (by kernel_rfl) (by kernel_rfl) ⟨rfl,?_⟩;unfold ref23_Send at h;obtain ⟨v1,g2,h⟩:=bind_inv h;refine ⟨_,_,some [],ref23_bad_ok g2,?_⟩;(conv=>whnf);refine .go ?_;revert h;refine sel_if ?_ ?_<;>intro h
 ·cases h;exact ⟨rfl,rfl⟩
 ·revert h;refine cut_join (fun v3=>⟨AV.d (D.i a0)::AV.d (D.i a1)::X::X::X::AV.ref 5 0::AV.ref 6 0::X::AV.d (D.b v3)::dd 31 ([]),nn 5 (some (OB.box (Attrs.av a2))::some (OB.box Attrs.zv)::nn 33 ([]))⟩) ?_ ?_
  ·intro k4 h;revert h;refine sel_if ?_ ?_<;>intro h
   ·exact join_end wk h
   ·exact join_end wk h
  ·rintro v3 h;revert h;refine cut_join (fun v5=>⟨AV.d (D.i a0)::AV.d (D.i a1)::X::X::X::AV.ref 5 0::AV.ref 6 0::X::AV.d (D.b v3)::dd 16 (AV.d (D.b v5)::dd 14 ([])),nn 5 (some (OB.box (Attrs.av a2))::some (OB.box Attrs.zv)::nn 33 ([]))⟩) ?_ ?_
   ·intro k6 h;revert h;refine sel_if ?_ ?_<;>intro h
    ·exact join_end wk h
    ·exact join_end wk h
   ·rintro v5 h;(conv=>whnf);refine .go ?_;revert h;refine sel_if ?_ ?_<;>intro h
    ·cases h;exact ⟨rfl,rfl⟩
    ·revert h;refine cut_join (fun v7=>⟨X::AV.d (D.i a1)::X::X::X::AV.ref 5 0::AV.ref 6 0::dd 29 (AV.d (D.b v7)::X::X::X::[]),nn 5 (some (OB.box (Attrs.av a2))::some (OB.box Attrs.zv)::nn 33 ([]))⟩) ?_ ?_
     ·intro k8 h;revert h;refine sel_if ?_ ?_<;>intro h
      ·revert h;refine sel_if ?_ ?_<;>intro h
       ·exact join_end wk h
       ·exact join_end wk h
      ·exact join_end wk h
     ·rintro v7 h;revert h;refine cut_join (fun v9=>⟨dd 5 (AV.ref 5 0::AV.ref 6 0::dd 33 ([])),nn 5 (some (OB.box [AV.d (D.i a2.Origin),AV.d (D.l 2 Segment.toD a2.Path),AV.d (D.b a2.Next.V6),AV.d (D.u64 a2.Next.Hi),AV.d (D.u64 a2.Next.Lo),AV.d (D.i a2.MED),AV.d (D.i a2.Pref),AV.d (D.i v9),AV.d (D.l 2 Community.toD a2.Communities),AV.d (D.l 3 Large.toD a2.Large),AV.d (D.l 3 Unknown.toD a2.Other)])::some (OB.box Attrs.zv)::nn 33 ([]))⟩) ?_ ?_
      ·intro k10 h;revert h;refine sel_if ?_ ?_<;>intro h
       ·exact join_end wk h
       ·exact join_end wk h
      ·rintro v9 h;cases h;exact ⟨rfl,rfl⟩
theorem ref26_Export_ok {a0:Int} {a1:Route} {a2:Policy} {r:Route×Int×Int} (h:ref26_Export a0 a1 a2=some r):CallsOK Tryz.prog 70 [AV.d (D.i a0),AV.d (Route.toD a1),AV.d (Policy.toD a2)] [] (.tup [.d (Route.toD r.1),.d (D.i r.2.1),.d (D.i r.2.2)]) []:=by
 refine ok Tryz.f70 (by kernel_rfl) (by kernel_rfl) ⟨rfl,?_⟩;unfold ref26_Export at h;revert h;refine cut_join (fun v1=>⟨AV.d (D.i a0)::X::X::X::AV.ref 4 0::AV.ref 5 0::AV.ref 6 0::dd 27 (AV.d (D.b v1)::dd 57 ([])),nn 4 (some (OB.box (Route.av a1))::some (OB.box (Policy.av a2))::some (OB.box Route.zv)::nn 85 ([]))⟩) ?_ ?_
 ·intro k2 h;obtain ⟨v3,g4,h⟩:=bind_inv h;refine ⟨_,_,some [],ref26_asn_ok g4,?_⟩;revert h;refine sel_if ?_ ?_<;>intro h
  ·exact join_end wk h
  ·obtain ⟨v5,g6,h⟩:=bind_inv h;refine ⟨_,_,some [],ref26_asn_ok g6,?_⟩;revert h;refine sel_if ?_ ?_<;>intro h
   ·exact join_end wk h
   ·obtain ⟨v7,g8,h⟩:=bind_inv h;refine ⟨_,_,some [],ref02_Valid_ok g8,?_⟩;revert h;refine sel_if ?_ ?_<;>intro h
    ·exact join_end wk h
    ·obtain ⟨v9,g10,h⟩:=bind_inv h;refine ⟨_,_,some [],ref18_Valid_ok g10,?_⟩;exact join_end wk h
 ·rintro v1 h;(conv=>whnf);refine .go ?_;revert h;refine sel_if ?_ ?_<;>intro h
  ·cases h;exact ⟨rfl,rfl⟩
  ·obtain ⟨v11,g12,h⟩:=bind_inv h;refine ⟨_,_,some [],ref26_Check_ok g12,?_⟩;(conv=>whnf);refine .go ?_;revert h;refine sel_if ?_ ?_<;>intro h
   ·cases h;exact ⟨rfl,rfl⟩
   ·obtain ⟨v13,g14,h⟩:=bind_inv h;refine ⟨_,_,some [],ref26_Verdict_ok g14,?_⟩;(conv=>whnf);refine .go ?_;revert h;refine sel_if ?_ ?_<;>intro h
    ·cases h;exact ⟨rfl,rfl⟩
    ·(conv=>whnf);refine dOB (by kernel_rfl) ?_;obtain ⟨v15,g16,h⟩:=bind_inv h;refine ⟨_,_,ref26_Prepends_ok g16,.inl rfl,?_⟩;obtain ⟨⟨v17,v18⟩,g19,h⟩:=bind_inv h;refine ⟨_,_,ref15_Prepend_ok g19,.inl rfl,?_⟩;(conv=>whnf);refine cOB (by kernel_rfl) ?_;(conv=>whnf);refine .go ?_;revert h;refine sel_if ?_ ?_<;>intro h
     ·cases h;exact ⟨rfl,rfl⟩
     ·(conv=>whnf);refine dOB (by kernel_rfl) ?_;obtain ⟨v20,g21,h⟩:=bind_inv h;refine ⟨_,_,ref26_Strip_ok g21,.inl rfl,?_⟩;(conv=>whnf);refine cOB (by kernel_rfl) ?_;obtain ⟨⟨v22,v23⟩,g24,h⟩:=bind_inv h;refine ⟨_,_,some [],ref23_Send_ok g24,?_⟩;cases h;exact ⟨rfl,rfl⟩
theorem ref28_Candidates_ok {a0:Server} {a1:Int} {a2:Prefix} {r:(List Route)} (h:ref28_Candidates a0 a1 a2=some r):CallsOK Tryz.prog 42 [AV.d (Server.toD a0),AV.d (D.i a1),AV.d (Prefix.toD a2)] [] (.d (D.l 16 Route.toD r)) []:=by
 refine ok Tryz.f42 (by kernel_rfl) (by kernel_rfl) ⟨rfl,?_⟩;unfold ref28_Candidates at h;obtain ⟨v1,g2,h⟩:=bind_inv h;refine ⟨_,_,some [],ref28_At_ok g2,?_⟩;revert h;refine cut_join (fun v3=>⟨X::X::X::AV.ref 3 0::X::AV.ref 5 0::X::AV.d (D.i v1)::dd 21 (AV.d (D.b v3)::dd 41 ([])),N::N::N::some (OB.box (Server.av a0))::N::some (OB.box (Prefix.av a2))::nn 65 ([])⟩) ?_ ?_
 ·intro k4 h;revert h;refine sel_if ?_ ?_<;>intro h
  ·exact join_end wk h
  ·obtain ⟨v5,g6,h⟩:=bind_inv h;refine ⟨geti_b (f:=RIB.toD) g6,RIB.toD v5,geti_d (f:=RIB.toD) g6,rfl,?_⟩;exact join_end wk h
 ·rintro v3 h;(conv=>whnf);refine .go ?_;revert h;refine sel_if ?_ ?_<;>intro h
  ·(conv=>whnf);refine .inl ?_;refine ⟨rfl,?_⟩;cases h;exact ⟨rfl,rfl⟩
  ·refine ⟨a0.RIBs.length,List.length_map _,?_⟩;revert h;refine cut_join (fun v7=>⟨dd 8 (AV.own 8 (List.map Route.toD v7).length::dd 62 ([])),nn 8 (some (OB.row 58 16 (List.map Route.toD v7) false)::nn 62 ([]))⟩) ?_ ?_
   ·intro k8 h;revert h;refine loop_for 31 8 RIB.toD rfl (fun i9 v10=>⟨X::X::X::AV.ref 3 0::X::AV.ref 5 0::X::AV.d (D.i v1)::AV.own 8 (List.map Route.toD v10).length::dd 22 (AV.d (D.l 8 RIB.toD a0.RIBs)::AV.d (D.i (a0.RIBs.length:Int))::AV.d (D.i (i9:Int))::dd 37 ([])),N::N::N::some (OB.box (Server.av a0))::N::some (OB.box (Prefix.av a2))::N::N::some (OB.row 58 16 (List.map Route.toD v10) false)::nn 62 ([])⟩) ?_ ?_ ?_
    ·exact wk
    ·rintro v10 K11 h;(conv=>whnf);refine .go ?_;(conv=>whnf);refine sel_f lt_f ?_;exact join_end wk h
    ·rintro next12 i9 x13 v10 K11 hii9 hxi9 hwi9 h hK14;(conv=>whnf);refine .go ?_;(conv=>whnf);refine sel_t (lt_t hii9) ?_;revert h;refine cut_join (fun v15=>⟨X::X::X::AV.ref 3 0::X::AV.ref 5 0::X::AV.d (D.i v1)::AV.own 8 (List.map Route.toD v15).length::dd 22 (AV.d (D.l 8 RIB.toD a0.RIBs)::AV.d (D.i (a0.RIBs.length:Int))::AV.d (D.i (i9:Int))::dd 37 ([])),N::N::N::some (OB.box (Server.av a0))::N::some (OB.box (Prefix.av a2))::N::N::some (OB.row 58 16 (List.map Route.toD v15) false)::nn 62 ([])⟩) ?_ ?_
     ·intro k16 h;refine ⟨idx_b (f:=RIB.toD) hii9,RIB.toD x13,hxi9,rfl,?_⟩;obtain ⟨⟨v17,v18⟩,g19,h⟩:=bind_inv h;refine ⟨_,_,some [],ref25_Accepted_ok g19,?_⟩;(conv=>whnf);refine .go ?_;revert h;refine sel_if ?_ ?_<;>intro h
      ·exact join_end wk h
      ·(conv=>whnf);refine dOB (by kernel_rfl) ?_;obtain ⟨v20,g21,h⟩:=bind_inv h;refine ⟨geti_b (f:=Policy.toD) g21,Policy.toD v20,geti_d (f:=Policy.toD) g21,rfl,?_⟩;obtain ⟨⟨v22,v23,v24⟩,g25,h⟩:=bind_inv h;refine ⟨_,_,ref26_Export_ok g25,.inl rfl,?_⟩;(conv=>whnf);refine cOB (by kernel_rfl) ?_;revert h;refine cut_join (fun v26=>⟨X::X::X::AV.ref 3 0::X::AV.ref 5 0::X::AV.d (D.i v1)::AV.own 8 (List.map Route.toD v10).length::dd 4 (AV.ref 13 0::dd 17 (AV.d (D.l 8 RIB.toD a0.RIBs)::AV.d (D.i (a0.RIBs.length:Int))::AV.d (D.i (i9:Int))::dd 30 (AV.d (D.b v26)::dd 6 ([])))),N::N::N::some (OB.box (Server.av a0))::N::some (OB.box (Prefix.av a2))::N::N::some (OB.row 58 16 (List.map Route.toD v10) false)::nn 4 (some (OB.box (Route.av v22))::nn 57 ([]))⟩) ?_ ?_
       ·intro k27 h;revert h;refine sel_if ?_ ?_<;>intro h
        ·exact join_end wk h
        ·exact join_end wk h
       ·rintro v26 h;revert h;refine cut_join (fun v28=>⟨X::X::X::AV.ref 3 0::X::AV.ref 5 0::X::AV.d (D.i v1)::AV.own 8 (List.map Route.toD v28).length::dd 22 (AV.d (D.l 8 RIB.toD a0.RIBs)::AV.d (D.i (a0.RIBs.length:Int))::AV.d (D.i (i9:Int))::dd 37 ([])),N::N::N::some (OB.box (Server.av a0))::N::some (OB.box (Prefix.av a2))::N::N::some (OB.row 58 16 (List.map Route.toD v28) false)::nn 62 ([])⟩) ?_ ?_
        ·intro k29 h;revert h;refine sel_if ?_ ?_<;>intro h
         ·refine ⟨rfl,?_⟩;obtain ⟨v30,g31,h⟩:=bind_inv h;refine ⟨rfl,apnd_b (f:=Route.toD) (g:=Route.toD) g31,_,apnd_z (f:=Route.toD) g31,?_⟩;exact join_end wk h
         ·exact join_end wk h
        ·rintro v28 h;exact join_end wk h
     ·rintro v15 h;refine ⟨_,hwi9,?_⟩;exact hK14 _ _ wk h
   ·rintro v7 h;(conv=>whnf);refine .inl ?_;refine ⟨rfl,?_⟩;cases h;exact ⟨rfl,rfl⟩
theorem ref27_Value_ok {a0:Policy} {a1:Int} {r:Int} (h:ref27_Value a0 a1=some r):CallsOK Tryz.prog 123 [AV.d (Policy.toD a0),AV.d (D.i a1)] [] (.d (D.i r)) []:=by
 refine ok Tryz.f123 (by kernel_rfl) (by kernel_rfl) ⟨rfl,?_⟩;unfold ref27_Value at h;refine ⟨a0.Prefer.length,List.length_map _,?_⟩;revert h;refine cut_join (fun _=>⟨dd 21 ([]),nn 21 ([])⟩) ?_ ?_
 ·intro k1 h;revert h;refine loop_for 8 2 Prefer.toD rfl (fun i2 _=>⟨X::AV.d (D.i a1)::dd 6 (AV.d (D.l 2 Prefer.toD a0.Prefer)::AV.d (D.i (a0.Prefer.length:Int))::AV.d (D.i (i2:Int))::dd 10 ([])),nn 21 ([])⟩) ?_ ?_ ?_
  ·exact wk
  ·rintro _ K3 h;(conv=>whnf);refine .go ?_;(conv=>whnf);refine sel_f lt_f ?_;exact join_end wk h
  ·rintro next4 i2 x5 _ K3 hii2 hxi2 hwi2 h hK6;(conv=>whnf);refine .go ?_;(conv=>whnf);refine sel_t (lt_t hii2) ?_;(conv=>whnf);refine .go ?_;refine ⟨idx_b (f:=Prefer.toD) hii2,Prefer.toD x5,hxi2,rfl,?_⟩;(conv=>whnf);refine .go ?_;revert h;refine sel_if ?_ ?_<;>intro h
   ·cases h;exact ⟨rfl,rfl⟩
   ·refine ⟨_,hwi2,?_⟩;exact hK6 _ _ wk h
 ·rintro _ h;cases h;exact ⟨rfl,rfl⟩
theorem ref27_key_ok {a0:Policy} {a1:Route} {r:A5_Int} (h:ref27_key a0 a1=some r):CallsOK Tryz.prog 104 [AV.d (Policy.toD a0),AV.d (Route.toD a1)] [] (.d (A5_Int.toD r)) []:=by
 refine ok Tryz.f104 (by kernel_rfl) (by kernel_rfl) ⟨rfl,?_⟩;unfold ref27_key at h;(conv=>whnf);refine dOB (by kernel_rfl) ?_;(conv=>whnf);refine cOB (by kernel_rfl) ?_;revert h;refine cut_join (fun v1=>⟨X::X::AV.ref 2 0::AV.ref 3 0::AV.ref 4 0::AV.ref 5 0::AV.d (D.i v1)::AV.d (D.i a1.Attrs.MED)::dd 23 ([]),N::N::some (OB.box (Policy.av a0))::some (OB.box (Route.av a1))::some (OB.box A5_Int.zv)::some (OB.box (Attrs.av a1.Attrs))::nn 25 ([])⟩) ?_ ?_
 ·intro k2 h;revert h;refine sel_if ?_ ?_<;>intro h
  ·exact join_end wk h
  ·exact join_end wk h
 ·rintro v1 h;revert h;refine cut_join (fun v3=>⟨X::X::AV.ref 2 0::AV.ref 3 0::AV.ref 4 0::AV.ref 5 0::AV.d (D.i v1)::AV.d (D.i v3)::dd 23 ([]),N::N::some (OB.box (Policy.av a0))::some (OB.box (Route.av a1))::some (OB.box A5_Int.zv)::some (OB.box (Attrs.av a1.Attrs))::nn 25 ([])⟩) ?_ ?_
  ·intro k4 h;revert h;refine sel_if ?_ ?_<;>intro h
   ·exact join_end wk h
   ·exact join_end wk h
  ·rintro v3 h;(conv=>whnf);refine dOB (by kernel_rfl) ?_;obtain ⟨v5,g6,h⟩:=bind_inv h;refine ⟨_,_,ref27_Value_ok g6,.inl rfl,?_⟩;refine ⟨_,rfl,?_⟩;obtain ⟨v7,g8,h⟩:=bind_inv h;refine ⟨_,_,ref15_Length_ok g8,.inl rfl,?_⟩;(conv=>whnf);refine cOB (by kernel_rfl) ?_;cases h;exact ⟨rfl,rfl⟩
end Go.AX.Q35
end
section
namespace Go.AX.Q35
open Go Go.AX Go.Proofs
set_option maxRecDepth 100000
set_option maxHeartbeats 4000000
set_option linter.unusedVariables false
theorem ref27_Compare_ok {a0:Policy} {a1:Route} {a2:Route} {r:Int×Int} (h:ref27_Compare a0 a1 a2=some r):CallsOK Tryz.prog 71 [AV.d (Policy.toD a0),AV.d (Route.toD a1),AV.d (Route.toD a2)] [] (.tup [.d (D.i r.1),.d (D.i r.2)]) []:=by
 refine ok Tryz.f71 (by kernel_rfl) (by kernel_rfl) ⟨rfl,?_⟩;unfold ref27_Compare at h;(conv=>whnf);refine dOB (by kernel_rfl) ?_;obtain ⟨v1,g2,h⟩:=bind_inv h;refine ⟨_,_,ref27_key_ok g2,.inl rfl,?_⟩;obtain ⟨v3,g4,h⟩:=bind_inv h;refine ⟨_,_,ref27_key_ok g4,.inl rfl,?_⟩;(conv=>whnf);refine cOB (by kernel_rfl) ?_;revert h;refine cut_join (fun _=>⟨dd 39 ([]),nn 39 ([])⟩) ?_ ?_
 ·intro k5 h;revert h;refine loop_while (fun v6=>⟨dd 8 (AV.ref 8 0::AV.ref 9 0::dd 7 (AV.d (D.i v6)::dd 21 ([]))),nn 8 (some (OB.box (A5_Int.av v1))::some (OB.box (A5_Int.av v3))::nn 29 ([]))⟩) ?_ ?_
  ·exact wk
  rintro next7 v6 K8 h hK9;(conv=>whnf);refine .go ?_;revert h;refine sel_if ?_ ?_<;>intro h
  ·(conv=>whnf);refine .go ?_;(conv=>whnf);refine dOB (by kernel_rfl) ?_;obtain ⟨v10,g11,h⟩:=bind_inv h;refine .inr ⟨geti_b (f:=id) g11,_,rfl,?_⟩;refine ⟨AV.d (D.i v10),geti_a0 (f:=fun x=>AV.d (D.i x)) g11,?_⟩;obtain ⟨v12,g13,h⟩:=bind_inv h;refine .inr ⟨geti_b (f:=id) g13,_,rfl,?_⟩;refine ⟨AV.d (D.i v12),geti_a0 (f:=fun x=>AV.d (D.i x)) g13,?_⟩;(conv=>whnf);refine cOB (by kernel_rfl) ?_;(conv=>whnf);refine .go ?_;revert h;refine sel_if ?_ ?_<;>intro h
   ·refine ⟨_,rfl,?_⟩;cases h;exact ⟨rfl,rfl⟩
   ·(conv=>whnf);refine dOB (by kernel_rfl) ?_;obtain ⟨v14,g15,h⟩:=bind_inv h;refine .inr ⟨geti_b (f:=id) g15,_,rfl,?_⟩;refine ⟨AV.d (D.i v14),geti_a0 (f:=fun x=>AV.d (D.i x)) g15,?_⟩;obtain ⟨v16,g17,h⟩:=bind_inv h;refine .inr ⟨geti_b (f:=id) g17,_,rfl,?_⟩;refine ⟨AV.d (D.i v16),geti_a0 (f:=fun x=>AV.d (D.i x)) g17,?_⟩;(conv=>whnf);refine cOB (by kernel_rfl) ?_;(conv=>whnf);refine .go ?_;revert h;refine sel_if ?_ ?_<;>intro h
    ·refine ⟨_,rfl,?_⟩;cases h;exact ⟨rfl,rfl⟩
    ·refine ⟨_,rfl,?_⟩;exact hK9 _ _ wk h
  ·exact join_end wk h
 ·rintro _ h;cases h;exact ⟨rfl,rfl⟩
theorem ref27_Best_ok {a0:Policy} {a1:List Route} {r:Int×Bool} (h:ref27_Best a0 a1=some r):CallsOK Tryz.prog 43 [AV.d (Policy.toD a0),AV.d (D.l 16 Route.toD a1)] [] (.tup [.d (D.i r.1),.d (D.b r.2)]) []:=by
 refine ok Tryz.f43 (by kernel_rfl) (by kernel_rfl) ⟨rfl,?_⟩;unfold ref27_Best at h;refine ⟨a1.length,List.length_map _,?_⟩;revert h;refine cut_join (fun v1=>⟨X::AV.d (D.l 16 Route.toD a1)::dd 4 (AV.d (D.i v1)::dd 29 ([])),nn 36 ([])⟩) ?_ ?_
 ·intro k2 h;revert h;refine loop_for 10 16 Route.toD rfl (fun i3 v4=>⟨X::AV.d (D.l 16 Route.toD a1)::AV.ref 2 0::X::X::X::AV.d (D.i v4)::X::X::X::AV.d (D.l 16 Route.toD a1)::AV.d (D.i (a1.length:Int))::AV.d (D.i (i3:Int))::dd 23 ([]),N::N::some (OB.box (Policy.av a0))::nn 33 ([])⟩) ?_ ?_ ?_
  ·exact wk
  ·rintro v4 K5 h;(conv=>whnf);refine .go ?_;(conv=>whnf);refine sel_f lt_f ?_;exact join_end wk h
  ·rintro next6 i3 x7 v4 K5 hii3 hxi3 hwi3 h hK8;(conv=>whnf);refine .go ?_;(conv=>whnf);refine sel_t (lt_t hii3) ?_;(conv=>whnf);refine .go ?_;(conv=>whnf);refine dOB (by kernel_rfl) ?_;refine ⟨idx_b (f:=Route.toD) hii3,Route.toD x7,hxi3,rfl,?_⟩;obtain ⟨v9,g10,h⟩:=bind_inv h;refine ⟨geti_b (f:=Route.toD) g10,Route.toD v9,geti_d (f:=Route.toD) g10,rfl,?_⟩;obtain ⟨⟨v11,v12⟩,g13,h⟩:=bind_inv h;refine ⟨_,_,ref27_Compare_ok g13,.inl rfl,?_⟩;(conv=>whnf);refine cOB (by kernel_rfl) ?_;revert h;refine cut_join (fun v14=>⟨X::AV.d (D.l 16 Route.toD a1)::AV.ref 2 0::X::X::X::AV.d (D.i v14)::X::X::X::AV.d (D.l 16 Route.toD a1)::AV.d (D.i (a1.length:Int))::AV.d (D.i (i3:Int))::dd 23 ([]),N::N::some (OB.box (Policy.av a0))::nn 33 ([])⟩) ?_ ?_
   ·intro k15 h;revert h;refine sel_if ?_ ?_<;>intro h
    ·exact join_end wk h
    ·exact join_end wk h
   ·rintro v14 h;refine ⟨_,hwi3,?_⟩;exact hK8 _ _ wk h
 ·rintro v1 h;refine ⟨a1.length,List.length_map _,?_⟩;cases h;exact ⟨rfl,rfl⟩
theorem ref28_Offer_ok {a0:Server} {a1:Int} {a2:Prefix} {r:Route×Bool} (h:ref28_Offer a0 a1 a2=some r):CallsOK Tryz.prog 24 [AV.d (Server.toD a0),AV.d (D.i a1),AV.d (Prefix.toD a2)] [] (.tup [.d (Route.toD r.1),.d (D.b r.2)]) []:=by
 refine ok Tryz.f24 (by kernel_rfl) (by kernel_rfl) ⟨rfl,?_⟩;unfold ref28_Offer at h;obtain ⟨v1,g2,h⟩:=bind_inv h;refine ⟨_,_,some [],ref28_Candidates_ok g2,?_⟩;refine ⟨v1.length,List.length_map _,?_⟩;(conv=>whnf);refine .go ?_;revert h;refine sel_if ?_ ?_<;>intro h
 ·cases h;exact ⟨rfl,rfl⟩
 ·(conv=>whnf);refine dOB (by kernel_rfl) ?_;obtain ⟨v3,g4,h⟩:=bind_inv h;refine ⟨_,_,ref28_At_ok g4,.inl rfl,?_⟩;obtain ⟨v5,g6,h⟩:=bind_inv h;refine ⟨geti_b (f:=Policy.toD) g6,Policy.toD v5,geti_d (f:=Policy.toD) g6,rfl,?_⟩;obtain ⟨⟨v7,v8⟩,g9,h⟩:=bind_inv h;refine ⟨_,_,ref27_Best_ok g9,.inl rfl,?_⟩;(conv=>whnf);refine cOB (by kernel_rfl) ?_;obtain ⟨v10,g11,h⟩:=bind_inv h;refine ⟨geti_b (f:=Route.toD) g11,Route.toD v10,geti_d (f:=Route.toD) g11,rfl,?_⟩;cases h;exact ⟨rfl,rfl⟩
theorem ref28_All_ok {a0:Server} {a1:Int} {r:(List Route)} (h:ref28_All a0 a1=some r):CallsOK Tryz.prog 7 [AV.d (Server.toD a0),AV.d (D.i a1)] [] (.d (D.l 16 Route.toD r)) []:=by
 refine ok Tryz.f7 (by kernel_rfl) (by kernel_rfl) ⟨rfl,?_⟩;unfold ref28_All at h;obtain ⟨v1,g2,h⟩:=bind_inv h;refine ⟨_,_,some [],ref28_Prefixes_ok g2,?_⟩;refine ⟨v1.length,List.length_map _,?_⟩;revert h;refine cut_join (fun v3=>⟨dd 5 (AV.own 5 (List.map Route.toD v3).length::dd 25 ([])),nn 5 (some (OB.row 58 16 (List.map Route.toD v3) false)::nn 25 ([]))⟩) ?_ ?_
 ·intro k4 h;revert h;refine loop_for 11 4 Prefix.toD rfl (fun i5 v6=>⟨X::AV.d (D.i a1)::AV.ref 2 0::X::X::AV.own 5 (List.map Route.toD v6).length::dd 5 (AV.d (D.l 4 Prefix.toD v1)::AV.d (D.i (v1.length:Int))::AV.d (D.i (i5:Int))::dd 17 ([])),N::N::some (OB.box (Server.av a0))::N::N::some (OB.row 58 16 (List.map Route.toD v6) false)::nn 25 ([])⟩) ?_ ?_ ?_
  ·exact wk
  ·rintro v6 K7 h;(conv=>whnf);refine .go ?_;(conv=>whnf);refine sel_f lt_f ?_;exact join_end wk h
  ·rintro next8 i5 x9 v6 K7 hii5 hxi5 hwi5 h hK10;(conv=>whnf);refine .go ?_;(conv=>whnf);refine sel_t (lt_t hii5) ?_;(conv=>whnf);refine .go ?_;refine ⟨idx_b (f:=Prefix.toD) hii5,Prefix.toD x9,hxi5,rfl,?_⟩;obtain ⟨⟨v11,v12⟩,g13,h⟩:=bind_inv h;refine ⟨_,_,some [],ref28_Offer_ok g13,?_⟩;revert h;refine cut_join (fun v14=>⟨X::AV.d (D.i a1)::AV.ref 2 0::X::X::AV.own 5 (List.map Route.toD v14).length::dd 5 (AV.d (D.l 4 Prefix.toD v1)::AV.d (D.i (v1.length:Int))::AV.d (D.i (i5:Int))::dd 17 ([])),N::N::some (OB.box (Server.av a0))::N::N::some (OB.row 58 16 (List.map Route.toD v14) false)::nn 25 ([])⟩) ?_ ?_
   ·intro k15 h;revert h;refine sel_if ?_ ?_<;>intro h
    ·refine ⟨rfl,?_⟩;obtain ⟨v16,g17,h⟩:=bind_inv h;refine ⟨rfl,apnd_b (f:=Route.toD) (g:=Route.toD) g17,_,apnd_z (f:=Route.toD) g17,?_⟩;exact join_end wk h
    ·exact join_end wk h
   ·rintro v14 h;refine ⟨_,hwi5,?_⟩;exact hK10 _ _ wk h
 ·rintro v3 h;(conv=>whnf);refine .inl ?_;refine ⟨rfl,?_⟩;cases h;exact ⟨rfl,rfl⟩
theorem ref29_fill_ok {a0:Server} {r:Cache} (h:ref29_fill a0=some r):CallsOK Tryz.prog 58 [AV.d (Server.toD a0)] [] (.d (Cache.toD r)) []:=by
 refine ok Tryz.f58 (by kernel_rfl) (by kernel_rfl) ⟨rfl,?_⟩;unfold ref29_fill at h;refine ⟨a0.Policies.length,List.length_map _,?_⟩;revert h;refine cut_join (fun v1=>⟨X::X::AV.ref 2 0::AV.ref 3 0::dd 22 ([]),N::N::some (OB.box Cache.zv)::some (OB.box [AV.d (D.i a0.Filter.Own),AV.d (D.l 4 Prefix.toD a0.Filter.LANs),AV.d (D.i a0.Filter.Min4),AV.d (D.i a0.Filter.Max4),AV.d (D.i a0.Filter.Min6),AV.d (D.i a0.Filter.Max6),AV.d (D.i a0.Filter.Hole4),AV.d (D.i a0.Filter.Hole6),AV.d (D.l 4 Prefix.toD a0.Filter.Bogons),AV.d (D.l 2 Span.toD a0.Filter.Private),AV.d (D.l 1 D.i a0.Filter.Free),AV.d (D.i a0.Filter.Hops),AV.d (D.l 3 Set.toD a0.Filter.Registry.Sets),AV.d (D.l 6 Object.toD a0.Filter.Registry.Objects),AV.d (D.l 6 Object.toD a0.Filter.Origins),AV.d (D.l 7 Policy.toD a0.Policies),AV.d (D.l 8 RIB.toD a0.RIBs),AV.own 22 (List.map (D.l 16 Route.toD) v1).length])::nn 18 (some (OB.row 38 1 (List.map (D.l 16 Route.toD) v1) false)::N::N::N::[])⟩) ?_ ?_
 ·intro k2 h;revert h;refine loop_for 9 7 Policy.toD rfl (fun i3 v4=>⟨X::AV.ref 1 0::AV.ref 2 0::AV.ref 3 0::dd 5 (AV.d (D.l 7 Policy.toD a0.Policies)::AV.d (D.i (a0.Policies.length:Int))::AV.d (D.i (i3:Int))::dd 14 ([])),N::some (OB.box (Server.av a0))::some (OB.box Cache.zv)::some (OB.box [AV.d (D.i a0.Filter.Own),AV.d (D.l 4 Prefix.toD a0.Filter.LANs),AV.d (D.i a0.Filter.Min4),AV.d (D.i a0.Filter.Max4),AV.d (D.i a0.Filter.Min6),AV.d (D.i a0.Filter.Max6),AV.d (D.i a0.Filter.Hole4),AV.d (D.i a0.Filter.Hole6),AV.d (D.l 4 Prefix.toD a0.Filter.Bogons),AV.d (D.l 2 Span.toD a0.Filter.Private),AV.d (D.l 1 D.i a0.Filter.Free),AV.d (D.i a0.Filter.Hops),AV.d (D.l 3 Set.toD a0.Filter.Registry.Sets),AV.d (D.l 6 Object.toD a0.Filter.Registry.Objects),AV.d (D.l 6 Object.toD a0.Filter.Origins),AV.d (D.l 7 Policy.toD a0.Policies),AV.d (D.l 8 RIB.toD a0.RIBs),AV.own 22 (List.map (D.l 16 Route.toD) v4).length])::nn 18 (some (OB.row 38 1 (List.map (D.l 16 Route.toD) v4) false)::N::N::N::[])⟩) ?_ ?_ ?_
  ·exact wk
  ·rintro v4 K5 h;(conv=>whnf);refine .go ?_;(conv=>whnf);refine sel_f lt_f ?_;exact join_end wk h
  ·rintro next6 i3 x7 v4 K5 hii3 hxi3 hwi3 h hK8;(conv=>whnf);refine .go ?_;(conv=>whnf);refine sel_t (lt_t hii3) ?_;(conv=>whnf);refine .go ?_;refine ⟨idx_b (f:=Policy.toD) hii3,Policy.toD x7,hxi3,rfl,?_⟩;(conv=>whnf);refine dOB (by kernel_rfl) ?_;obtain ⟨v9,g10,h⟩:=bind_inv h;refine ⟨_,_,ref28_All_ok g10,.inl rfl,?_⟩;refine ⟨rfl,?_⟩;obtain ⟨v11,g12,h⟩:=bind_inv h;refine ⟨rfl,apnd_b (f:=(D.l 16 Route.toD)) (g:=(D.l 16 Route.toD)) g12,_,apnd_z (f:=(D.l 16 Route.toD)) g12,?_⟩;(conv=>whnf);refine cOB (by kernel_rfl) ?_;refine ⟨_,hwi3,?_⟩;exact hK8 _ _ wk h
 ·rintro v1 h;(conv=>whnf);refine .inl ?_;refine ⟨rfl,?_⟩;cases h;exact ⟨rfl,rfl⟩
theorem ref26_Copy_ok {a0:Policy} {r:Policy} (h:ref26_Copy a0=some r):CallsOK Tryz.prog 65 [AV.d (Policy.toD a0)] [] (.d (Policy.toD r)) []:=by
 refine ok Tryz.f65 (by kernel_rfl) (by kernel_rfl) ⟨rfl,?_⟩;unfold ref26_Copy at h;(conv=>whnf);refine dOB (by kernel_rfl) ?_;obtain ⟨_,g1,h⟩:=bind_inv h;refine ⟨apnd_b0 (g:=D.i) g1,?_⟩;obtain ⟨_,g2,h⟩:=bind_inv h;refine ⟨apnd_b0 (g:=Prefer.toD) g2,?_⟩;(conv=>whnf);refine cOB (by kernel_rfl) ?_;(conv=>whnf);refine .inl ?_;refine ⟨rfl,?_⟩;refine ⟨rfl,?_⟩;cases h;exact ⟨rfl,rfl⟩
theorem ref24_CopyFilter_ok {a0:Filter} {r:Filter} (h:ref24_CopyFilter a0=some r):CallsOK Tryz.prog 82 [AV.d (Filter.toD a0)] [] (.d (Filter.toD r)) []:=by
 refine ok Tryz.f82 (by kernel_rfl) (by kernel_rfl) ⟨rfl,?_⟩;unfold ref24_CopyFilter at h;(conv=>whnf);refine dOB (by kernel_rfl) ?_;obtain ⟨_,g1,h⟩:=bind_inv h;refine ⟨apnd_b0 (g:=Prefix.toD) g1,?_⟩;obtain ⟨_,g2,h⟩:=bind_inv h;refine ⟨apnd_b0 (g:=Prefix.toD) g2,?_⟩;(conv=>whnf);refine cOB (by kernel_rfl) ?_;(conv=>whnf);refine dOB (by kernel_rfl) ?_;obtain ⟨_,g3,h⟩:=bind_inv h;refine ⟨apnd_b0 (g:=Span.toD) g3,?_⟩;obtain ⟨_,g4,h⟩:=bind_inv h;refine ⟨apnd_b0 (g:=D.i) g4,?_⟩;(conv=>whnf);refine cOB (by kernel_rfl) ?_;obtain ⟨_,g5,h⟩:=bind_inv h;refine ⟨apnd_b0 (g:=Object.toD) g5,?_⟩;obtain ⟨_,g6,h⟩:=bind_inv h;refine ⟨apnd_b0 (g:=Object.toD) g6,?_⟩;refine ⟨a0.Registry.Sets.length,List.length_map _,?_⟩;revert h;refine cut_join (fun v7=>⟨X::X::AV.ref 2 0::AV.ref 3 0::dd 55 ([]),N::N::some (OB.box Filter.zv)::some (OB.box [AV.d (D.i a0.Own),AV.own 9 (List.map Prefix.toD a0.LANs).length,AV.d (D.i a0.Min4),AV.d (D.i a0.Max4),AV.d (D.i a0.Min6),AV.d (D.i a0.Max6),AV.d (D.i a0.Hole4),AV.d (D.i a0.Hole6),AV.own 12 (List.map Prefix.toD a0.Bogons).length,AV.own 17 (List.map Span.toD a0.Private).length,AV.own 20 (List.map D.i a0.Free).length,AV.d (D.i a0.Hops),AV.own 54 (List.map Set.toD v7).length,AV.own 30 (List.map Object.toD a0.Registry.Objects).length,AV.own 25 (List.map Object.toD a0.Origins).length])::nn 5 (some (OB.row 50 4 (List.map Prefix.toD a0.LANs) false)::N::N::some (OB.row 50 4 (List.map Prefix.toD a0.Bogons) false)::nn 4 (some (OB.row 168 2 (List.map Span.toD a0.Private) false)::N::N::some (OB.row 3 1 (List.map D.i a0.Free) false)::nn 4 (some (OB.row 77 6 (List.map Object.toD a0.Origins) false)::nn 4 (some (OB.row 77 6 (List.map Object.toD a0.Registry.Objects) false)::nn 23 (some (OB.row 106 3 (List.map Set.toD v7) false)::nn 4 ([]))))))⟩) ?_ ?_
 ·intro k8 h;revert h;refine loop_for 35 3 Set.toD rfl (fun i9 v10=>⟨X::X::AV.ref 2 0::AV.ref 3 0::dd 31 (AV.d (D.l 3 Set.toD a0.Registry.Sets)::AV.d (D.i (a0.Registry.Sets.length:Int))::AV.d (D.i (i9:Int))::dd 21 ([])),N::N::some (OB.box Filter.zv)::some (OB.box [AV.d (D.i a0.Own),AV.own 9 (List.map Prefix.toD a0.LANs).length,AV.d (D.i a0.Min4),AV.d (D.i a0.Max4),AV.d (D.i a0.Min6),AV.d (D.i a0.Max6),AV.d (D.i a0.Hole4),AV.d (D.i a0.Hole6),AV.own 12 (List.map Prefix.toD a0.Bogons).length,AV.own 17 (List.map Span.toD a0.Private).length,AV.own 20 (List.map D.i a0.Free).length,AV.d (D.i a0.Hops),AV.own 54 (List.map Set.toD v10).length,AV.own 30 (List.map Object.toD a0.Registry.Objects).length,AV.own 25 (List.map Object.toD a0.Origins).length])::nn 5 (some (OB.row 50 4 (List.map Prefix.toD a0.LANs) false)::N::N::some (OB.row 50 4 (List.map Prefix.toD a0.Bogons) false)::nn 4 (some (OB.row 168 2 (List.map Span.toD a0.Private) false)::N::N::some (OB.row 3 1 (List.map D.i a0.Free) false)::nn 4 (some (OB.row 77 6 (List.map Object.toD a0.Origins) false)::nn 4 (some (OB.row 77 6 (List.map Object.toD a0.Registry.Objects) false)::nn 23 (some (OB.row 106 3 (List.map Set.toD v10) false)::nn 4 ([]))))))⟩) ?_ ?_ ?_
  ·exact wk
  ·rintro v10 K11 h;(conv=>whnf);refine .go ?_;(conv=>whnf);refine sel_f lt_f ?_;exact join_end wk h
  ·rintro next12 i9 x13 v10 K11 hii9 hxi9 hwi9 h hK14;(conv=>whnf);refine .go ?_;(conv=>whnf);refine sel_t (lt_t hii9) ?_;(conv=>whnf);refine .go ?_;refine ⟨idx_b (f:=Set.toD) hii9,Set.toD x13,hxi9,rfl,?_⟩;(conv=>whnf);refine dOB (by kernel_rfl) ?_;obtain ⟨_,g15,h⟩:=bind_inv h;refine ⟨apnd_b0 (g:=D.i) g15,?_⟩;obtain ⟨_,g16,h⟩:=bind_inv h;refine ⟨apnd_b0 (g:=D.s) g16,?_⟩;(conv=>whnf);refine .inl ?_;refine ⟨rfl,?_⟩;refine ⟨rfl,?_⟩;refine ⟨rfl,?_⟩;obtain ⟨v17,g18,h⟩:=bind_inv h;refine ⟨rfl,apnd_b (f:=Set.toD) (g:=Set.toD) g18,_,apnd_z (f:=Set.toD) g18,?_⟩;(conv=>whnf);refine cOB (by kernel_rfl) ?_;refine ⟨_,hwi9,?_⟩;exact hK14 _ _ wk h
 ·rintro v7 h;(conv=>whnf);refine .inl ?_;refine ⟨rfl,?_⟩;refine ⟨rfl,?_⟩;refine ⟨rfl,?_⟩;refine ⟨rfl,?_⟩;refine ⟨rfl,?_⟩;refine ⟨rfl,?_⟩;refine ⟨rfl,?_⟩;cases h;exact ⟨rfl,rfl⟩
theorem ref25_Copy_ok {a0:RIB} {r:RIB} (h:ref25_Copy a0=some r):CallsOK Tryz.prog 83 [AV.d (RIB.toD a0)] [] (.agg [.d (D.i r.Peer.ASN),.d (D.s r.Peer.Set),.d (D.i r.Peer.Max4),.d (D.i r.Peer.Max6),.d (D.l 3 Addr.toD r.Peer.Nexts),.d (D.b r.Up),AV.own 0 (List.map Held.toD r.Held).length,.d (D.i r.Until)]) [.row 101 18 (List.map Held.toD r.Held) false]:=by
 refine ok Tryz.f83 (by kernel_rfl) (by kernel_rfl) ⟨rfl,?_⟩;unfold ref25_Copy at h;obtain ⟨_,g1,h⟩:=bind_inv h;refine ⟨apnd_b0 (g:=Addr.toD) g1,?_⟩;refine ⟨a0.Held.length,List.length_map _,?_⟩;revert h;refine cut_join (fun v2=>⟨X::X::AV.ref 2 0::AV.ref 3 0::dd 31 ([]),N::N::some (OB.box RIB.zv)::some (OB.box [AV.d (D.i a0.Peer.ASN),AV.d (D.s a0.Peer.Set),AV.d (D.i a0.Peer.Max4),AV.d (D.i a0.Peer.Max6),AV.own 10 (List.map Addr.toD a0.Peer.Nexts).length,AV.d (D.b a0.Up),AV.own 31 (List.map Held.toD v2).length,AV.d (D.i a0.Until)])::nn 6 (some (OB.row 47 3 (List.map Addr.toD a0.Peer.Nexts) false)::nn 20 (some (OB.row 101 18 (List.map Held.toD v2) false)::N::N::N::[]))⟩) ?_ ?_
 ·intro k3 h;revert h;refine loop_for 15 18 Held.toD rfl (fun i4 v5=>⟨X::X::AV.ref 2 0::AV.ref 3 0::dd 11 (AV.d (D.l 18 Held.toD a0.Held)::AV.d (D.i (a0.Held.length:Int))::AV.d (D.i (i4:Int))::dd 17 ([])),N::N::some (OB.box RIB.zv)::some (OB.box [AV.d (D.i a0.Peer.ASN),AV.d (D.s a0.Peer.Set),AV.d (D.i a0.Peer.Max4),AV.d (D.i a0.Peer.Max6),AV.own 10 (List.map Addr.toD a0.Peer.Nexts).length,AV.d (D.b a0.Up),AV.own 31 (List.map Held.toD v5).length,AV.d (D.i a0.Until)])::nn 6 (some (OB.row 47 3 (List.map Addr.toD a0.Peer.Nexts) false)::nn 20 (some (OB.row 101 18 (List.map Held.toD v5) false)::N::N::N::[]))⟩) ?_ ?_ ?_
  ·exact wk
  ·rintro v5 K6 h;(conv=>whnf);refine .go ?_;(conv=>whnf);refine sel_f lt_f ?_;exact join_end wk h
  ·rintro next7 i4 x8 v5 K6 hii4 hxi4 hwi4 h hK9;(conv=>whnf);refine .go ?_;(conv=>whnf);refine sel_t (lt_t hii4) ?_;(conv=>whnf);refine .go ?_;refine ⟨idx_b (f:=Held.toD) hii4,Held.toD x8,hxi4,rfl,?_⟩;obtain ⟨v10,g11,h⟩:=bind_inv h;refine ⟨_,_,some [],ref23_CopyAttrs_ok g11,?_⟩;refine ⟨rfl,?_⟩;obtain ⟨v12,g13,h⟩:=bind_inv h;refine ⟨rfl,apnd_b (f:=Held.toD) (g:=Held.toD) g13,_,apnd_z (f:=Held.toD) g13,?_⟩;refine ⟨_,hwi4,?_⟩;exact hK9 _ _ wk h
 ·rintro v2 h;(conv=>whnf);refine .inr ⟨[31],?_⟩;refine ⟨rfl,?_⟩;cases h;exact ⟨rfl,rfl⟩
theorem ref28_Copy_ok {a0:Server} {r:Server} (h:ref28_Copy a0=some r):CallsOK Tryz.prog 59 [AV.d (Server.toD a0)] [] (.agg [.d (D.i r.Filter.Own),.d (D.l 4 Prefix.toD r.Filter.LANs),.d (D.i r.Filter.Min4),.d (D.i r.Filter.Max4),.d (D.i r.Filter.Min6),.d (D.i r.Filter.Max6),.d (D.i r.Filter.Hole4),.d (D.i r.Filter.Hole6),.d (D.l 4 Prefix.toD r.Filter.Bogons),.d (D.l 2 Span.toD r.Filter.Private),.d (D.l 1 D.i r.Filter.Free),.d (D.i r.Filter.Hops),.d (D.l 3 Set.toD r.Filter.Registry.Sets),.d (D.l 6 Object.toD r.Filter.Registry.Objects),.d (D.l 6 Object.toD r.Filter.Origins),AV.own 0 (List.map Policy.toD r.Policies).length,AV.own 1 (List.map RIB.toD r.RIBs).length]) [.row 42 7 (List.map Policy.toD r.Policies) false,.row 73 8 (List.map RIB.toD r.RIBs) false]:=by
 refine ok Tryz.f59 (by kernel_rfl) (by kernel_rfl) ⟨rfl,?_⟩;unfold ref28_Copy at h;obtain ⟨v1,g2,h⟩:=bind_inv h;refine ⟨_,_,some [],ref24_CopyFilter_ok g2,?_⟩;refine ⟨a0.Policies.length,List.length_map _,?_⟩;revert h;refine cut_join (fun v3=>⟨X::AV.ref 1 0::AV.ref 2 0::AV.ref 3 0::dd 39 ([]),N::some (OB.box (Server.av a0))::some (OB.box Server.zv)::some (OB.box [AV.d (D.i v1.Own),AV.d (D.l 4 Prefix.toD v1.LANs),AV.d (D.i v1.Min4),AV.d (D.i v1.Max4),AV.d (D.i v1.Min6),AV.d (D.i v1.Max6),AV.d (D.i v1.Hole4),AV.d (D.i v1.Hole6),AV.d (D.l 4 Prefix.toD v1.Bogons),AV.d (D.l 2 Span.toD v1.Private),AV.d (D.l 1 D.i v1.Free),AV.d (D.i v1.Hops),AV.d (D.l 3 Set.toD v1.Registry.Sets),AV.d (D.l 6 Object.toD v1.Registry.Objects),AV.d (D.l 6 Object.toD v1.Origins),AV.own 24 (List.map Policy.toD v3).length,AV.d (D.nil 8)])::nn 20 (some (OB.row 42 7 (List.map Policy.toD v3) false)::nn 18 ([]))⟩) ?_ ?_
 ·intro k4 h;revert h;refine loop_for 13 7 Policy.toD rfl (fun i5 v6=>⟨X::AV.ref 1 0::AV.ref 2 0::AV.ref 3 0::dd 9 (AV.d (D.l 7 Policy.toD a0.Policies)::AV.d (D.i (a0.Policies.length:Int))::AV.d (D.i (i5:Int))::dd 27 ([])),N::some (OB.box (Server.av a0))::some (OB.box Server.zv)::some (OB.box [AV.d (D.i v1.Own),AV.d (D.l 4 Prefix.toD v1.LANs),AV.d (D.i v1.Min4),AV.d (D.i v1.Max4),AV.d (D.i v1.Min6),AV.d (D.i v1.Max6),AV.d (D.i v1.Hole4),AV.d (D.i v1.Hole6),AV.d (D.l 4 Prefix.toD v1.Bogons),AV.d (D.l 2 Span.toD v1.Private),AV.d (D.l 1 D.i v1.Free),AV.d (D.i v1.Hops),AV.d (D.l 3 Set.toD v1.Registry.Sets),AV.d (D.l 6 Object.toD v1.Registry.Objects),AV.d (D.l 6 Object.toD v1.Origins),AV.own 24 (List.map Policy.toD v6).length,AV.d (D.nil 8)])::nn 20 (some (OB.row 42 7 (List.map Policy.toD v6) false)::nn 18 ([]))⟩) ?_ ?_ ?_
  ·exact wk
  ·rintro v6 K7 h;(conv=>whnf);refine .go ?_;(conv=>whnf);refine sel_f lt_f ?_;exact join_end wk h
  ·rintro next8 i5 x9 v6 K7 hii5 hxi5 hwi5 h hK10;(conv=>whnf);refine .go ?_;(conv=>whnf);refine sel_t (lt_t hii5) ?_;(conv=>whnf);refine .go ?_;refine ⟨idx_b (f:=Policy.toD) hii5,Policy.toD x9,hxi5,rfl,?_⟩;(conv=>whnf);refine dOB (by kernel_rfl) ?_;obtain ⟨v11,g12,h⟩:=bind_inv h;refine ⟨_,_,ref26_Copy_ok g12,.inl rfl,?_⟩;refine ⟨rfl,?_⟩;obtain ⟨v13,g14,h⟩:=bind_inv h;refine ⟨rfl,apnd_b (f:=Policy.toD) (g:=Policy.toD) g14,_,apnd_z (f:=Policy.toD) g14,?_⟩;(conv=>whnf);refine cOB (by kernel_rfl) ?_;refine ⟨_,hwi5,?_⟩;exact hK10 _ _ wk h
 ·rintro v3 h;refine ⟨a0.RIBs.length,List.length_map _,?_⟩;revert h;refine cut_join (fun v15=>⟨X::X::AV.ref 2 0::AV.ref 3 0::dd 39 ([]),N::N::some (OB.box Server.zv)::some (OB.box [AV.d (D.i v1.Own),AV.d (D.l 4 Prefix.toD v1.LANs),AV.d (D.i v1.Min4),AV.d (D.i v1.Max4),AV.d (D.i v1.Min6),AV.d (D.i v1.Max6),AV.d (D.i v1.Hole4),AV.d (D.i v1.Hole6),AV.d (D.l 4 Prefix.toD v1.Bogons),AV.d (D.l 2 Span.toD v1.Private),AV.d (D.l 1 D.i v1.Free),AV.d (D.i v1.Hops),AV.d (D.l 3 Set.toD v1.Registry.Sets),AV.d (D.l 6 Object.toD v1.Registry.Objects),AV.d (D.l 6 Object.toD v1.Origins),AV.own 24 (List.map Policy.toD v3).length,AV.own 39 (List.map RIB.toD v15).length])::nn 20 (some (OB.row 42 7 (List.map Policy.toD v3) false)::nn 14 (some (OB.row 73 8 (List.map RIB.toD v15) false)::N::N::N::[]))⟩) ?_ ?_
  ·intro k16 h;revert h;refine loop_for 28 8 RIB.toD rfl (fun i17 v18=>⟨X::X::AV.ref 2 0::AV.ref 3 0::dd 24 (AV.d (D.l 8 RIB.toD a0.RIBs)::AV.d (D.i (a0.RIBs.length:Int))::AV.d (D.i (i17:Int))::dd 12 ([])),N::N::some (OB.box Server.zv)::some (OB.box [AV.d (D.i v1.Own),AV.d (D.l 4 Prefix.toD v1.LANs),AV.d (D.i v1.Min4),AV.d (D.i v1.Max4),AV.d (D.i v1.Min6),AV.d (D.i v1.Max6),AV.d (D.i v1.Hole4),AV.d (D.i v1.Hole6),AV.d (D.l 4 Prefix.toD v1.Bogons),AV.d (D.l 2 Span.toD v1.Private),AV.d (D.l 1 D.i v1.Free),AV.d (D.i v1.Hops),AV.d (D.l 3 Set.toD v1.Registry.Sets),AV.d (D.l 6 Object.toD v1.Registry.Objects),AV.d (D.l 6 Object.toD v1.Origins),AV.own 24 (List.map Policy.toD v3).length,AV.own 39 (List.map RIB.toD v18).length])::nn 20 (some (OB.row 42 7 (List.map Policy.toD v3) false)::nn 14 (some (OB.row 73 8 (List.map RIB.toD v18) false)::N::N::N::[]))⟩) ?_ ?_ ?_
   ·exact wk
   ·rintro v18 K19 h;(conv=>whnf);refine .go ?_;(conv=>whnf);refine sel_f lt_f ?_;exact join_end wk h
   ·rintro next20 i17 x21 v18 K19 hii17 hxi17 hwi17 h hK22;(conv=>whnf);refine .go ?_;(conv=>whnf);refine sel_t (lt_t hii17) ?_;(conv=>whnf);refine .go ?_;refine ⟨idx_b (f:=RIB.toD) hii17,RIB.toD x21,hxi17,rfl,?_⟩;(conv=>whnf);refine dOB (by kernel_rfl) ?_;obtain ⟨v23,g24,h⟩:=bind_inv h;refine ⟨_,_,ref25_Copy_ok g24,.inr rfl,?_⟩;(conv=>whnf);refine .inl ?_;refine ⟨rfl,?_⟩;refine ⟨rfl,?_⟩;obtain ⟨v25,g26,h⟩:=bind_inv h;refine ⟨rfl,apnd_b (f:=RIB.toD) (g:=RIB.toD) g26,_,apnd_z (f:=RIB.toD) g26,?_⟩;(conv=>whnf);refine cOB (by kernel_rfl) ?_;refine ⟨_,hwi17,?_⟩;exact hK22 _ _ wk h
  ·rintro v15 h;(conv=>whnf);refine .inr ⟨[24,39],?_⟩;cases h;exact ⟨rfl,rfl⟩
theorem ref29_Begin_ok {a0:Server} {r:Cache×Int} (h:ref29_Begin a0=some r):CallsOK Tryz.prog 37 [AV.d (Server.toD a0)] [] (.tup [.d (Cache.toD r.1),.d (D.i r.2)]) []:=by
 refine ok Tryz.f37 (by kernel_rfl) (by kernel_rfl) ⟨rfl,?_⟩;unfold ref29_Begin at h;obtain ⟨v1,g2,h⟩:=bind_inv h;refine ⟨_,_,some [],ref28_Valid_ok g2,?_⟩;(conv=>whnf);refine .go ?_;revert h;refine sel_if ?_ ?_<;>intro h
 ·cases h;exact ⟨rfl,rfl⟩
 ·obtain ⟨v3,g4,h⟩:=bind_inv h;refine ⟨_,_,some [9,8],ref28_Copy_ok g4,?_⟩;refine ⟨rfl,?_⟩;refine ⟨rfl,?_⟩;obtain ⟨v5,g6,h⟩:=bind_inv h;refine ⟨_,_,some [],ref29_fill_ok g6,?_⟩;cases h;exact ⟨rfl,rfl⟩
theorem mill_Deck_Left_ok {a0:Deck} {r:Bool×Deck} (h:mill_Deck_Left a0=some r):CallsOK Tryz.prog 38 [.ref 0 0] [.box (Deck.av a0)] (.d (D.b r.1)) [.box (Deck.av r.2)]:=by
 refine ok Tryz.f38 (by kernel_rfl) (by kernel_rfl) ⟨rfl,?_⟩;unfold mill_Deck_Left at h;(conv=>whnf);refine dOB (by kernel_rfl) ?_;refine ⟨a0.L.length,List.length_map _,?_⟩;(conv=>whnf);refine cOB (by kernel_rfl) ?_;cases h;exact ⟨rfl,rfl⟩
theorem ref18_Empty_ok  {r:Attrs} (h:ref18_Empty=some r):CallsOK Tryz.prog 84 [] [] (.d (Attrs.toD r)) []:=by
 refine ok Tryz.f84 (by kernel_rfl) (by kernel_rfl) ⟨rfl,?_⟩;unfold ref18_Empty at h;cases h;exact ⟨rfl,rfl⟩
theorem mill_Deck_Prefix_ok {a0:Deck} {r:Prefix×Deck} (h:mill_Deck_Prefix a0=some r):CallsOK Tryz.prog 85 [.ref 0 0] [.box (Deck.av a0)] (.d (Prefix.toD r.1)) [.box (Deck.av r.2)]:=by
 refine ok Tryz.f85 (by kernel_rfl) (by kernel_rfl) ⟨rfl,?_⟩;unfold mill_Deck_Prefix at h;obtain ⟨⟨v1,v2⟩,g3,h⟩:=bind_inv h;refine ⟨_,_,some [],mill_Deck_Next_ok g3,?_⟩;obtain ⟨v4,g5,h⟩:=bind_inv h;refine ⟨_,_,some [],mill_block_ok g5,?_⟩;obtain ⟨⟨v6,v7⟩,g8,h⟩:=bind_inv h;refine ⟨_,_,some [],mill_Deck_Next_ok g8,?_⟩;(conv=>whnf);refine .go ?_;revert h;refine cut_join (fun (v9,v10)=>⟨X::X::AV.ref 3 0::AV.ref 4 0::dd 29 ([]),some (OB.box (Deck.av v9))::N::N::some (OB.box Prefix.zv)::some (OB.box (Prefix.av v10))::nn 29 ([])⟩) ?_ ?_
 ·intro k11 h;revert h;refine sel_if ?_ ?_<;>intro h
  ·revert h;refine cut_join (fun v12=>⟨X::X::AV.ref 3 0::AV.ref 4 0::dd 29 ([]),some (OB.box (Deck.av v7))::N::N::some (OB.box Prefix.zv)::some (OB.box [AV.d (D.b v4.Addr.V6),AV.d (D.u64 v4.Addr.Hi),AV.d (D.u64 v4.Addr.Lo),AV.d (D.i v12)])::nn 29 ([])⟩) ?_ ?_
   ·intro k13 h;revert h;refine sel_if ?_ ?_<;>intro h
    ·exact join_end wk h
    ·exact join_end wk h
   ·rintro v12 h;exact join_end wk h
  ·revert h;refine cut_join (fun (v14,v15)=>⟨X::X::AV.ref 3 0::AV.ref 4 0::dd 29 ([]),some (OB.box (Deck.av v14))::N::N::some (OB.box Prefix.zv)::some (OB.box (Prefix.av v15))::nn 29 ([])⟩) ?_ ?_
   ·intro k16 h;revert h;refine sel_if ?_ ?_<;>intro h
    ·revert h;refine cut_join (fun v17=>⟨AV.ref 0 0::X::AV.ref 3 0::AV.ref 4 0::dd 29 ([]),some (OB.box (Deck.av v7))::N::N::some (OB.box Prefix.zv)::some (OB.box [AV.d (D.b v4.Addr.V6),AV.d (D.u64 v4.Addr.Hi),AV.d (D.u64 v4.Addr.Lo),AV.d (D.i v17)])::nn 29 ([])⟩) ?_ ?_
     ·intro k18 h;revert h;refine sel_if ?_ ?_<;>intro h
      ·exact join_end wk h
      ·exact join_end wk h
     ·rintro v17 h;(conv=>whnf);refine dOB (by kernel_rfl) ?_;obtain ⟨⟨v19,v20⟩,g21,h⟩:=bind_inv h;refine ⟨_,_,mill_Deck_Next_ok g21,.inl rfl,?_⟩;refine ⟨_,u64_wrap _,?_⟩;refine ⟨_,u64_wrap _,?_⟩;(conv=>whnf);refine cOB (by kernel_rfl) ?_;exact join_end wk h
    ·exact join_end wk h
   ·rintro ⟨v14,v15⟩ h;exact join_end wk h
 ·rintro ⟨v9,v10⟩ h;cases h;exact ⟨rfl,rfl⟩
theorem mill_Deck_Communities_ok {a0:Deck} {r:(List Community)×Deck} (h:mill_Deck_Communities a0=some r):CallsOK Tryz.prog 124 [.ref 0 0] [.box (Deck.av a0)] (.d (D.l 2 Community.toD r.1)) [.box (Deck.av r.2)]:=by
 refine ok Tryz.f124 (by kernel_rfl) (by kernel_rfl) ⟨rfl,?_⟩;unfold mill_Deck_Communities at h;obtain ⟨⟨v1,v2⟩,g3,h⟩:=bind_inv h;refine ⟨_,_,some [],mill_Deck_Next_ok g3,?_⟩;refine ⟨([(⟨0,99⟩:Community),(⟨0,101⟩:Community),(⟨0,102⟩:Community),(⟨99,101⟩:Community),(⟨99,103⟩:Community),(⟨500,1⟩:Community),(⟨65535,666⟩:Community),(⟨65535,65282⟩:Community)]:List Community).length,by first | exact List.length_map _ | rfl | (simp only [List.length_map];omega),?_⟩;revert h;refine cut_join (fun (v4,v5)=>⟨dd 4 (AV.own 5 (List.map Community.toD v5).length::dd 43 ([])),some (OB.box (Deck.av v4))::nn 4 (some (OB.row 95 2 (List.map Community.toD v5) false)::nn 43 ([]))⟩) ?_ ?_
 ·intro k6 h;revert h;refine loop_own 17 95 2 false Community.toD rfl (fun i7 (v8,v9)=>⟨AV.ref 0 0::X::X::X::AV.own 5 (List.map Community.toD v9).length::AV.d (D.i v1)::dd 13 (AV.own 17 (List.map Community.toD ([(⟨0,99⟩:Community),(⟨0,101⟩:Community),(⟨0,102⟩:Community),(⟨99,101⟩:Community),(⟨99,103⟩:Community),(⟨500,1⟩:Community),(⟨65535,666⟩:Community),(⟨65535,65282⟩:Community)]:List Community)).length::AV.d (D.i (([(⟨0,99⟩:Community),(⟨0,101⟩:Community),(⟨0,102⟩:Community),(⟨99,101⟩:Community),(⟨99,103⟩:Community),(⟨500,1⟩:Community),(⟨65535,666⟩:Community),(⟨65535,65282⟩:Community)]:List Community).length:Int))::AV.d (D.i (i7:Int))::dd 26 ([])),some (OB.box (Deck.av v8))::nn 4 (some (OB.row 95 2 (List.map Community.toD v9) false)::nn 11 (some (OB.row 95 2 (List.map Community.toD ([(⟨0,99⟩:Community),(⟨0,101⟩:Community),(⟨0,102⟩:Community),(⟨99,101⟩:Community),(⟨99,103⟩:Community),(⟨500,1⟩:Community),(⟨65535,666⟩:Community),(⟨65535,65282⟩:Community)]:List Community)) false)::nn 31 ([])))⟩) ?_ ?_ ?_
  ·exact wk
  ·rintro ⟨v8,v9⟩ K10 h;(conv=>whnf);refine .go ?_;exact join_end wk h
  ·rintro next11 i7 x12 ⟨v8,v9⟩ K10 hii7 hxi7 hwi7 h hK13;(conv=>whnf);refine .go ?_;(conv=>whnf);refine sel_t (lt_t hii7) ?_;(conv=>whnf);refine .go ?_;refine ⟨rfl,idx_b (f:=Community.toD) hii7,?_⟩;refine ⟨rfl,Community.toD x12,hxi7,?_⟩;revert h;refine cut_join (fun (v14,v15)=>⟨AV.ref 0 0::X::X::X::AV.own 5 (List.map Community.toD v9).length::AV.d (D.i v1)::X::AV.ref 8 0::dd 11 (AV.own 17 (List.map Community.toD ([(⟨0,99⟩:Community),(⟨0,101⟩:Community),(⟨0,102⟩:Community),(⟨99,101⟩:Community),(⟨99,103⟩:Community),(⟨500,1⟩:Community),(⟨65535,666⟩:Community),(⟨65535,65282⟩:Community)]:List Community)).length::AV.d (D.i (([(⟨0,99⟩:Community),(⟨0,101⟩:Community),(⟨0,102⟩:Community),(⟨99,101⟩:Community),(⟨99,103⟩:Community),(⟨500,1⟩:Community),(⟨65535,666⟩:Community),(⟨65535,65282⟩:Community)]:List Community).length:Int))::AV.d (D.i (i7:Int))::dd 19 (AV.d (D.b v14)::dd 6 ([]))),some (OB.box (Deck.av v15))::nn 4 (some (OB.row 95 2 (List.map Community.toD v9) false)::N::N::some (OB.box (Community.av x12))::nn 8 (some (OB.row 95 2 (List.map Community.toD ([(⟨0,99⟩:Community),(⟨0,101⟩:Community),(⟨0,102⟩:Community),(⟨99,101⟩:Community),(⟨99,103⟩:Community),(⟨500,1⟩:Community),(⟨65535,666⟩:Community),(⟨65535,65282⟩:Community)]:List Community)) false)::nn 31 ([])))⟩) ?_ ?_
   ·intro k16 h;refine ⟨_,rfl,?_⟩;refine ⟨_,u64_wrap _,?_⟩;refine ⟨Int.natCast_nonneg _,_,rfl,?_⟩;refine ⟨_,rfl,?_⟩;revert h;refine sel_if ?_ ?_<;>intro h
    ·revert h;refine sel_if ?_ ?_<;>intro h
     ·exact join_end wk h
     ·obtain ⟨⟨v17,v18⟩,g19,h⟩:=bind_inv h;refine ⟨_,_,some [],mill_Deck_Next_ok g19,?_⟩;exact join_end wk h
    ·exact join_end wk h
   ·rintro ⟨v14,v15⟩ h;revert h;refine cut_join (fun v20=>⟨AV.ref 0 0::X::X::X::AV.own 5 (List.map Community.toD v20).length::AV.d (D.i v1)::dd 13 (AV.own 17 (List.map Community.toD ([(⟨0,99⟩:Community),(⟨0,101⟩:Community),(⟨0,102⟩:Community),(⟨99,101⟩:Community),(⟨99,103⟩:Community),(⟨500,1⟩:Community),(⟨65535,666⟩:Community),(⟨65535,65282⟩:Community)]:List Community)).length::AV.d (D.i (([(⟨0,99⟩:Community),(⟨0,101⟩:Community),(⟨0,102⟩:Community),(⟨99,101⟩:Community),(⟨99,103⟩:Community),(⟨500,1⟩:Community),(⟨65535,666⟩:Community),(⟨65535,65282⟩:Community)]:List Community).length:Int))::AV.d (D.i (i7:Int))::dd 26 ([])),some (OB.box (Deck.av v15))::nn 4 (some (OB.row 95 2 (List.map Community.toD v20) false)::nn 11 (some (OB.row 95 2 (List.map Community.toD ([(⟨0,99⟩:Community),(⟨0,101⟩:Community),(⟨0,102⟩:Community),(⟨99,101⟩:Community),(⟨99,103⟩:Community),(⟨500,1⟩:Community),(⟨65535,666⟩:Community),(⟨65535,65282⟩:Community)]:List Community)) false)::nn 31 ([])))⟩) ?_ ?_
    ·intro k21 h;revert h;refine sel_if ?_ ?_<;>intro h
     ·refine ⟨rfl,?_⟩;obtain ⟨v22,g23,h⟩:=bind_inv h;refine ⟨rfl,apnd_b (f:=Community.toD) (g:=Community.toD) g23,_,apnd_z (f:=Community.toD) g23,?_⟩;exact join_end wk h
     ·exact join_end wk h
    ·rintro v20 h;refine ⟨_,hwi7,?_⟩;exact hK13 _ _ wk h
 ·rintro ⟨v4,v5⟩ h;(conv=>whnf);refine .inl ?_;refine ⟨rfl,?_⟩;cases h;exact ⟨rfl,rfl⟩
end Go.AX.Q35
end
section
namespace Go.AX.Q35
open Go Go.AX Go.Proofs
set_option maxRecDepth 100000
set_option maxHeartbeats 4000000
set_option linter.unusedVariables false
theorem mill_Deck_Large_ok {a0:Deck} {r:(List Large)×Deck} (h:mill_Deck_Large a0=some r):CallsOK Tryz.prog 125 [.ref 0 0] [.box (Deck.av a0)] (.d (D.l 3 Large.toD r.1)) [.box (Deck.av r.2)]:=by
 refine ok Tryz.f125 (by kernel_rfl) (by kernel_rfl) ⟨rfl,?_⟩;unfold mill_Deck_Large at h;obtain ⟨⟨v1,v2⟩,g3,h⟩:=bind_inv h;refine ⟨_,_,some [],mill_Deck_Next_ok g3,?_⟩;refine ⟨([(⟨5,5,5⟩:Large),(⟨99,0,0⟩:Large),(⟨99,0,103⟩:Large),(⟨99,1,102⟩:Large),(⟨99,101,0⟩:Large),(⟨99,102,104⟩:Large),(⟨99,103,101⟩:Large)]:List Large).length,by first | exact List.length_map _ | rfl | (simp only [List.length_map];omega),?_⟩;revert h;refine cut_join (fun v4=>⟨dd 4 (AV.own 5 (List.map Large.toD v4).length::dd 33 ([])),some (OB.box (Deck.av v2))::nn 4 (some (OB.row 136 3 (List.map Large.toD v4) false)::nn 33 ([]))⟩) ?_ ?_
 ·intro k5 h;revert h;refine loop_own 16 136 3 false Large.toD rfl (fun i6 v7=>⟨dd 4 (AV.own 5 (List.map Large.toD v7).length::AV.d (D.i v1)::dd 12 (AV.own 16 (List.map Large.toD ([(⟨5,5,5⟩:Large),(⟨99,0,0⟩:Large),(⟨99,0,103⟩:Large),(⟨99,1,102⟩:Large),(⟨99,101,0⟩:Large),(⟨99,102,104⟩:Large),(⟨99,103,101⟩:Large)]:List Large)).length::AV.d (D.i (([(⟨5,5,5⟩:Large),(⟨99,0,0⟩:Large),(⟨99,0,103⟩:Large),(⟨99,1,102⟩:Large),(⟨99,101,0⟩:Large),(⟨99,102,104⟩:Large),(⟨99,103,101⟩:Large)]:List Large).length:Int))::AV.d (D.i (i6:Int))::dd 17 ([]))),some (OB.box (Deck.av v2))::nn 4 (some (OB.row 136 3 (List.map Large.toD v7) false)::nn 10 (some (OB.row 136 3 (List.map Large.toD ([(⟨5,5,5⟩:Large),(⟨99,0,0⟩:Large),(⟨99,0,103⟩:Large),(⟨99,1,102⟩:Large),(⟨99,101,0⟩:Large),(⟨99,102,104⟩:Large),(⟨99,103,101⟩:Large)]:List Large)) false)::nn 22 ([])))⟩) ?_ ?_ ?_
  ·exact wk
  ·rintro v7 K8 h;(conv=>whnf);refine .go ?_;exact join_end wk h
  ·rintro next9 i6 x10 v7 K8 hii6 hxi6 hwi6 h hK11;(conv=>whnf);refine .go ?_;(conv=>whnf);refine sel_t (lt_t hii6) ?_;(conv=>whnf);refine .go ?_;refine ⟨rfl,idx_b (f:=Large.toD) hii6,?_⟩;refine ⟨rfl,Large.toD x10,hxi6,?_⟩;refine ⟨_,rfl,?_⟩;refine ⟨_,u64_wrap _,?_⟩;refine ⟨Int.natCast_nonneg _,_,rfl,?_⟩;refine ⟨_,rfl,?_⟩;revert h;refine cut_join (fun v12=>⟨dd 4 (AV.own 5 (List.map Large.toD v12).length::AV.d (D.i v1)::dd 12 (AV.own 16 (List.map Large.toD ([(⟨5,5,5⟩:Large),(⟨99,0,0⟩:Large),(⟨99,0,103⟩:Large),(⟨99,1,102⟩:Large),(⟨99,101,0⟩:Large),(⟨99,102,104⟩:Large),(⟨99,103,101⟩:Large)]:List Large)).length::AV.d (D.i (([(⟨5,5,5⟩:Large),(⟨99,0,0⟩:Large),(⟨99,0,103⟩:Large),(⟨99,1,102⟩:Large),(⟨99,101,0⟩:Large),(⟨99,102,104⟩:Large),(⟨99,103,101⟩:Large)]:List Large).length:Int))::AV.d (D.i (i6:Int))::dd 17 ([]))),some (OB.box (Deck.av v2))::nn 4 (some (OB.row 136 3 (List.map Large.toD v12) false)::nn 10 (some (OB.row 136 3 (List.map Large.toD ([(⟨5,5,5⟩:Large),(⟨99,0,0⟩:Large),(⟨99,0,103⟩:Large),(⟨99,1,102⟩:Large),(⟨99,101,0⟩:Large),(⟨99,102,104⟩:Large),(⟨99,103,101⟩:Large)]:List Large)) false)::nn 22 ([])))⟩) ?_ ?_
   ·intro k13 h;revert h;refine sel_if ?_ ?_<;>intro h
    ·refine ⟨rfl,?_⟩;obtain ⟨v14,g15,h⟩:=bind_inv h;refine ⟨rfl,apnd_b (f:=Large.toD) (g:=Large.toD) g15,_,apnd_z (f:=Large.toD) g15,?_⟩;exact join_end wk h
    ·exact join_end wk h
   ·rintro v12 h;refine ⟨_,hwi6,?_⟩;exact hK11 _ _ wk h
 ·rintro v4 h;(conv=>whnf);refine .inl ?_;refine ⟨rfl,?_⟩;cases h;exact ⟨rfl,rfl⟩
theorem mill_Deck_Attrs_ok {a0:Deck} {a1:Int} {a2:Bool} {r:Attrs×Deck} (h:mill_Deck_Attrs a0 a1 a2=some r):CallsOK Tryz.prog 109 [.ref 0 0,AV.d (D.i a1),AV.d (D.b a2)] [.box (Deck.av a0)] (.d (Attrs.toD r.1)) [.box (Deck.av r.2)]:=by
 refine ok Tryz.f109 (by kernel_rfl) (by kernel_rfl) ⟨rfl,?_⟩;unfold mill_Deck_Attrs at h;obtain ⟨v1,g2,h⟩:=bind_inv h;refine ⟨_,_,some [],ref18_Empty_ok g2,?_⟩;obtain ⟨⟨v3,v4⟩,g5,h⟩:=bind_inv h;refine ⟨_,_,some [],mill_Deck_Next_ok g5,?_⟩;obtain ⟨⟨v6,v7⟩,g8,h⟩:=bind_inv h;refine ⟨_,_,some [],mill_Deck_Next_ok g8,?_⟩;revert h;refine cut_join (fun (v9,v10)=>⟨AV.ref 0 0::AV.d (D.i a1)::AV.d (D.b a2)::X::X::X::AV.ref 7 0::AV.ref 8 0::AV.own 16 (List.map D.i v10).length::dd 117 ([]),some (OB.box (Deck.av v9))::nn 6 (some (OB.box Attrs.zv)::some (OB.box [AV.d (D.i v3),AV.d (D.l 2 Segment.toD v1.Path),AV.d (D.b v1.Next.V6),AV.d (D.u64 v1.Next.Hi),AV.d (D.u64 v1.Next.Lo),AV.d (D.i v1.MED),AV.d (D.i v1.Pref),AV.d (D.i v1.OTC),AV.d (D.l 2 Community.toD v1.Communities),AV.d (D.l 3 Large.toD v1.Large),AV.d (D.l 3 Unknown.toD v1.Other)])::nn 7 (some (OB.row 3 1 (List.map D.i v10) false)::nn 110 ([])))⟩) ?_ ?_
 ·intro k11 h;revert h;refine loop_while (fun (v12,v13,v14)=>⟨AV.ref 0 0::AV.d (D.i a1)::AV.d (D.b a2)::X::X::X::AV.ref 7 0::AV.ref 8 0::AV.own 16 (List.map D.i v14).length::AV.d (D.i v12)::dd 116 ([]),some (OB.box (Deck.av v13))::nn 6 (some (OB.box Attrs.zv)::some (OB.box [AV.d (D.i v3),AV.d (D.l 2 Segment.toD v1.Path),AV.d (D.b v1.Next.V6),AV.d (D.u64 v1.Next.Hi),AV.d (D.u64 v1.Next.Lo),AV.d (D.i v1.MED),AV.d (D.i v1.Pref),AV.d (D.i v1.OTC),AV.d (D.l 2 Community.toD v1.Communities),AV.d (D.l 3 Large.toD v1.Large),AV.d (D.l 3 Unknown.toD v1.Other)])::nn 7 (some (OB.row 3 1 (List.map D.i v14) false)::nn 110 ([])))⟩) ?_ ?_
  ·exact wk
  rintro next15 ⟨v12,v13,v14⟩ K16 h hK17;(conv=>whnf);refine .go ?_;revert h;refine sel_if ?_ ?_<;>intro h
  ·(conv=>whnf);refine .go ?_;obtain ⟨⟨v18,v19⟩,g20,h⟩:=bind_inv h;refine ⟨_,_,some [],mill_Deck_Next_ok g20,?_⟩;obtain ⟨v21,g22,h⟩:=bind_inv h;refine ⟨rfl,geti_b (f:=D.i) g22,?_⟩;refine ⟨rfl,D.i v21,(geti_d (f:=D.i) g22),?_⟩;refine ⟨rfl,?_⟩;obtain ⟨v23,g24,h⟩:=bind_inv h;refine ⟨rfl,apnd_b (f:=D.i) (g:=D.i) g24,_,apnd_z (f:=D.i) g24,?_⟩;refine ⟨_,rfl,?_⟩;exact hK17 _ _ wk h
  ·exact join_end wk h
 ·rintro ⟨v9,v10⟩ h;(conv=>whnf);refine .inr ?_;obtain ⟨v25,g26,h⟩:=bind_inv h;refine ⟨_,_,some [],mill_Port_ok g26,?_⟩;obtain ⟨⟨v27,v28⟩,g29,h⟩:=bind_inv h;refine ⟨_,_,some [],mill_Deck_Next_ok g29,?_⟩;revert h;refine cut_join (fun (v30,v31)=>⟨AV.ref 0 0::X::AV.d (D.b a2)::X::X::X::AV.ref 7 0::AV.ref 8 0::dd 118 ([]),some (OB.box (Deck.av v30))::nn 6 (some (OB.box Attrs.zv)::some (OB.box [AV.d (D.i v3),AV.own 34 1,AV.d (D.b v25.V6),AV.d (D.u64 v25.Hi),AV.d (D.u64 v25.Lo),AV.d (D.i v31),AV.d (D.i v1.Pref),AV.d (D.i v1.OTC),AV.d (D.l 2 Community.toD v1.Communities),AV.d (D.l 3 Large.toD v1.Large),AV.d (D.l 3 Unknown.toD v1.Other)])::nn 7 (some (OB.row 3 1 (List.map D.i v10) false)::nn 17 (some (OB.box [AV.d (D.b false),AV.own 16 (List.map D.i v10).length])::nn 92 ([]))))⟩) ?_ ?_
  ·intro k32 h;revert h;refine sel_if ?_ ?_<;>intro h
   ·obtain ⟨⟨v33,v34⟩,g35,h⟩:=bind_inv h;refine ⟨_,_,some [],mill_Deck_Next_ok g35,?_⟩;exact join_end wk h
   ·exact join_end wk h
  ·rintro ⟨v30,v31⟩ h;obtain ⟨⟨v36,v37⟩,g38,h⟩:=bind_inv h;refine ⟨_,_,some [],mill_Deck_Next_ok g38,?_⟩;revert h;refine cut_join (fun (v39,v40)=>⟨AV.ref 0 0::X::AV.d (D.b a2)::X::X::X::AV.ref 7 0::AV.ref 8 0::dd 118 ([]),some (OB.box (Deck.av v39))::nn 6 (some (OB.box Attrs.zv)::some (OB.box [AV.d (D.i v3),AV.own 34 1,AV.d (D.b v25.V6),AV.d (D.u64 v25.Hi),AV.d (D.u64 v25.Lo),AV.d (D.i v31),AV.d (D.i v40),AV.d (D.i v1.OTC),AV.d (D.l 2 Community.toD v1.Communities),AV.d (D.l 3 Large.toD v1.Large),AV.d (D.l 3 Unknown.toD v1.Other)])::nn 7 (some (OB.row 3 1 (List.map D.i v10) false)::nn 17 (some (OB.box [AV.d (D.b false),AV.own 16 (List.map D.i v10).length])::nn 92 ([]))))⟩) ?_ ?_
   ·intro k41 h;revert h;refine sel_if ?_ ?_<;>intro h
    ·obtain ⟨⟨v42,v43⟩,g44,h⟩:=bind_inv h;refine ⟨_,_,some [],mill_Deck_Next_ok g44,?_⟩;exact join_end wk h
    ·exact join_end wk h
   ·rintro ⟨v39,v40⟩ h;obtain ⟨⟨v45,v46⟩,g47,h⟩:=bind_inv h;refine ⟨_,_,some [],mill_Deck_Communities_ok g47,?_⟩;obtain ⟨⟨v48,v49⟩,g50,h⟩:=bind_inv h;refine ⟨_,_,some [],mill_Deck_Large_ok g50,?_⟩;obtain ⟨⟨v51,v52⟩,g53,h⟩:=bind_inv h;refine ⟨_,_,some [],mill_Deck_Next_ok g53,?_⟩;(conv=>whnf);refine .go ?_;revert h;refine cut_join (fun (v54,v55,v56,v57,v58,v59,v60)=>⟨dd 6 (AV.ref 7 0::AV.ref 8 0::dd 118 ([])),some (OB.box (Deck.av v54))::nn 6 (some (OB.box Attrs.zv)::some (OB.box [AV.d (D.i v3),AV.d (D.l 2 Segment.toD v55),AV.d (D.b v56),AV.d (D.u64 v57),AV.d (D.u64 v58),AV.d (D.i v31),AV.d (D.i v40),AV.d (D.i v59),AV.d (D.l 2 Community.toD v45),AV.d (D.l 3 Large.toD v48),AV.d (D.l 3 Unknown.toD v60)])::nn 118 ([]))⟩) ?_ ?_
    ·intro k61 h;revert h;refine sel_if ?_ ?_<;>intro h
     ·obtain ⟨⟨v62,v63⟩,g64,h⟩:=bind_inv h;refine ⟨_,_,some [],mill_Deck_Next_ok g64,?_⟩;refine ⟨_,rfl,?_⟩;exact join_end wk h
     ·revert h;refine cut_join (fun (v65,v66,v67,v68,v69,v70)=>⟨dd 6 (AV.ref 7 0::AV.ref 8 0::dd 118 ([])),some (OB.box (Deck.av v65))::nn 6 (some (OB.box Attrs.zv)::some (OB.box [AV.d (D.i v3),AV.d (D.l 2 Segment.toD v66),AV.d (D.b v67),AV.d (D.u64 v68),AV.d (D.u64 v69),AV.d (D.i v31),AV.d (D.i v40),AV.d (D.i v1.OTC),AV.d (D.l 2 Community.toD v45),AV.d (D.l 3 Large.toD v48),AV.d (D.l 3 Unknown.toD v70)])::nn 118 ([]))⟩) ?_ ?_
      ·intro k71 h;revert h;refine sel_if ?_ ?_<;>intro h
       ·refine ⟨rfl,?_⟩;obtain ⟨v72,g73,h⟩:=bind_inv h;refine ⟨rfl,geti_b (f:=D.i) g73,?_⟩;obtain ⟨v74,g75,h⟩:=bind_inv h;have g75l:=seti_len g75;refine ⟨rfl,rfl,D.i v72,(geti_d (f:=D.i) g73),?_⟩;refine ⟨_,seti_z (f:=D.i) g75,?_⟩;exact join_end wk h
       ·revert h;refine cut_join (fun (v76,v77,v78,v79,v80,v81)=>⟨dd 6 (AV.ref 7 0::AV.ref 8 0::dd 118 ([])),some (OB.box (Deck.av v76))::nn 6 (some (OB.box Attrs.zv)::some (OB.box [AV.d (D.i v3),AV.d (D.l 2 Segment.toD v77),AV.d (D.b v78),AV.d (D.u64 v79),AV.d (D.u64 v80),AV.d (D.i v31),AV.d (D.i v40),AV.d (D.i v1.OTC),AV.d (D.l 2 Community.toD v45),AV.d (D.l 3 Large.toD v48),AV.d (D.l 3 Unknown.toD v81)])::nn 118 ([]))⟩) ?_ ?_
        ·intro k82 h;revert h;refine sel_if ?_ ?_<;>intro h
         ·(conv=>whnf);refine .inl ?_;refine ⟨rfl,?_⟩;refine ⟨rfl,?_⟩;refine ⟨by simp,?_⟩;refine ⟨rfl,?_⟩;exact join_end wk h
         ·revert h;refine cut_join (fun (v83,v84,v85,v86,v87,v88)=>⟨dd 6 (AV.ref 7 0::AV.ref 8 0::dd 118 ([])),some (OB.box (Deck.av v83))::nn 6 (some (OB.box Attrs.zv)::some (OB.box [AV.d (D.i v3),AV.d (D.l 2 Segment.toD v84),AV.d (D.b v85),AV.d (D.u64 v86),AV.d (D.u64 v87),AV.d (D.i v31),AV.d (D.i v40),AV.d (D.i v1.OTC),AV.d (D.l 2 Community.toD v45),AV.d (D.l 3 Large.toD v48),AV.d (D.l 3 Unknown.toD v88)])::nn 118 ([]))⟩) ?_ ?_
          ·intro k89 h;revert h;refine sel_if ?_ ?_<;>intro h
           ·(conv=>whnf);refine dOB (by kernel_rfl) ?_;refine ⟨rfl,?_⟩;refine ⟨rfl,?_⟩;obtain ⟨v90,g91,h⟩:=bind_inv h;refine ⟨rfl,apnd_b (f:=D.i) (g:=D.i) g91,_,apnd_z (f:=D.i) g91,?_⟩;refine ⟨rfl,?_⟩;(conv=>whnf);refine cOB (by kernel_rfl) ?_;exact join_end wk h
           ·revert h;refine cut_join (fun (v92,v93,v94,v95,v96,v97)=>⟨dd 6 (AV.ref 7 0::AV.ref 8 0::dd 118 ([])),some (OB.box (Deck.av v92))::nn 6 (some (OB.box Attrs.zv)::some (OB.box [AV.d (D.i v3),AV.d (D.l 2 Segment.toD v93),AV.d (D.b v94),AV.d (D.u64 v95),AV.d (D.u64 v96),AV.d (D.i v31),AV.d (D.i v40),AV.d (D.i v1.OTC),AV.d (D.l 2 Community.toD v45),AV.d (D.l 3 Large.toD v48),AV.d (D.l 3 Unknown.toD v97)])::nn 118 ([]))⟩) ?_ ?_
            ·intro k98 h;revert h;refine sel_if ?_ ?_<;>intro h
             ·obtain ⟨v99,g100,h⟩:=bind_inv h;refine ⟨_,_,some [],mill_Port_ok g100,?_⟩;exact join_end wk h
             ·revert h;refine cut_join (fun (v101,v102,v103)=>⟨dd 6 (AV.ref 7 0::AV.ref 8 0::dd 118 ([])),some (OB.box (Deck.av v101))::nn 6 (some (OB.box Attrs.zv)::some (OB.box [AV.d (D.i v3),AV.d (D.l 2 Segment.toD v102),AV.d (D.b v25.V6),AV.d (D.u64 v25.Hi),AV.d (D.u64 v25.Lo),AV.d (D.i v31),AV.d (D.i v40),AV.d (D.i v1.OTC),AV.d (D.l 2 Community.toD v45),AV.d (D.l 3 Large.toD v48),AV.d (D.l 3 Unknown.toD v103)])::nn 118 ([]))⟩) ?_ ?_
              ·intro k104 h;revert h;refine sel_if ?_ ?_<;>intro h
               ·(conv=>whnf);refine dOB (by kernel_rfl) ?_;refine ⟨rfl,?_⟩;refine ⟨rfl,?_⟩;obtain ⟨v105,g106,h⟩:=bind_inv h;refine ⟨rfl,apnd_b (f:=D.i) (g:=D.i) g106,_,apnd_z (f:=D.i) g106,?_⟩;refine ⟨rfl,?_⟩;(conv=>whnf);refine cOB (by kernel_rfl) ?_;exact join_end wk h
               ·revert h;refine cut_join (fun (v107,v108,v109)=>⟨dd 6 (AV.ref 7 0::AV.ref 8 0::dd 118 ([])),some (OB.box (Deck.av v107))::nn 6 (some (OB.box Attrs.zv)::some (OB.box [AV.d (D.i v3),AV.d (D.l 2 Segment.toD v108),AV.d (D.b v25.V6),AV.d (D.u64 v25.Hi),AV.d (D.u64 v25.Lo),AV.d (D.i v31),AV.d (D.i v40),AV.d (D.i v1.OTC),AV.d (D.l 2 Community.toD v45),AV.d (D.l 3 Large.toD v48),AV.d (D.l 3 Unknown.toD v109)])::nn 118 ([]))⟩) ?_ ?_
                ·intro k110 h;revert h;refine sel_if ?_ ?_<;>intro h
                 ·exact join_end wk h
                 ·revert h;refine cut_join (fun (v111,v112)=>⟨dd 6 (AV.ref 7 0::AV.ref 8 0::dd 118 ([])),some (OB.box (Deck.av v111))::nn 6 (some (OB.box Attrs.zv)::some (OB.box [AV.d (D.i v3),AV.own 34 1,AV.d (D.b v25.V6),AV.d (D.u64 v25.Hi),AV.d (D.u64 v25.Lo),AV.d (D.i v31),AV.d (D.i v40),AV.d (D.i v1.OTC),AV.d (D.l 2 Community.toD v45),AV.d (D.l 3 Large.toD v48),AV.d (D.l 3 Unknown.toD v112)])::nn 7 (some (OB.row 3 1 (List.map D.i v10) false)::nn 17 (some (OB.box [AV.d (D.b false),AV.own 16 (List.map D.i v10).length])::nn 92 ([]))))⟩) ?_ ?_
                  ·intro k113 h;revert h;refine sel_if ?_ ?_<;>intro h
                   ·obtain ⟨⟨v114,v115⟩,g116,h⟩:=bind_inv h;refine ⟨_,_,some [],mill_Deck_Next_ok g116,?_⟩;refine ⟨_,u8_wrap _,?_⟩;(conv=>whnf);refine .inr ?_;exact join_end wk h
                   ·exact join_end wk h
                  ·rintro ⟨v111,v112⟩ h;exact join_end wk h
                ·rintro ⟨v107,v108,v109⟩ h;exact join_end wk h
              ·rintro ⟨v101,v102,v103⟩ h;exact join_end wk h
            ·rintro ⟨v92,v93,v94,v95,v96,v97⟩ h;exact join_end wk h
          ·rintro ⟨v83,v84,v85,v86,v87,v88⟩ h;exact join_end wk h
        ·rintro ⟨v76,v77,v78,v79,v80,v81⟩ h;exact join_end wk h
      ·rintro ⟨v65,v66,v67,v68,v69,v70⟩ h;exact join_end wk h
    ·rintro ⟨v54,v55,v56,v57,v58,v59,v60⟩ h;cases h;exact ⟨rfl,rfl⟩
theorem mill_Deck_Route_ok {a0:Deck} {a1:Int} {r:Route×Deck} (h:mill_Deck_Route a0 a1=some r):CallsOK Tryz.prog 86 [.ref 0 0,AV.d (D.i a1)] [.box (Deck.av a0)] (.d (Route.toD r.1)) [.box (Deck.av r.2)]:=by
 refine ok Tryz.f86 (by kernel_rfl) (by kernel_rfl) ⟨rfl,?_⟩;unfold mill_Deck_Route at h;obtain ⟨⟨v1,v2⟩,g3,h⟩:=bind_inv h;refine ⟨_,_,some [],mill_Deck_Prefix_ok g3,?_⟩;(conv=>whnf);refine dOB (by kernel_rfl) ?_;obtain ⟨⟨v4,v5⟩,g6,h⟩:=bind_inv h;refine ⟨_,_,mill_Deck_Attrs_ok g6,.inl rfl,?_⟩;(conv=>whnf);refine cOB (by kernel_rfl) ?_;cases h;exact ⟨rfl,rfl⟩
theorem mill_Deck_Update_ok {a0:Deck} {a1:Int} {r:Update×Deck} (h:mill_Deck_Update a0 a1=some r):CallsOK Tryz.prog 60 [.ref 0 0,AV.d (D.i a1)] [.box (Deck.av a0)] (.d (Update.toD r.1)) [.box (Deck.av r.2)]:=by
 refine ok Tryz.f60 (by kernel_rfl) (by kernel_rfl) ⟨rfl,?_⟩;unfold mill_Deck_Update at h;obtain ⟨v1,g2,h⟩:=bind_inv h;refine ⟨_,_,some [],ref18_Empty_ok g2,?_⟩;obtain ⟨⟨v3,v4⟩,g5,h⟩:=bind_inv h;refine ⟨_,_,some [],mill_Deck_Next_ok g5,?_⟩;revert h;refine cut_join (fun (v6,v7)=>⟨AV.ref 0 0::AV.d (D.i a1)::X::X::AV.ref 5 0::AV.ref 6 0::dd 60 ([]),some (OB.box (Deck.av v6))::nn 4 (some (OB.box Update.zv)::some (OB.box [AV.own 29 (List.map Prefix.toD v7).length,AV.d (D.i v1.Origin),AV.d (D.l 2 Segment.toD v1.Path),AV.d (D.b v1.Next.V6),AV.d (D.u64 v1.Next.Hi),AV.d (D.u64 v1.Next.Lo),AV.d (D.i v1.MED),AV.d (D.i v1.Pref),AV.d (D.i v1.OTC),AV.d (D.l 2 Community.toD v1.Communities),AV.d (D.l 3 Large.toD v1.Large),AV.d (D.l 3 Unknown.toD v1.Other),AV.d (D.nil 4)])::nn 22 (some (OB.row 50 4 (List.map Prefix.toD v7) false)::nn 37 ([])))⟩) ?_ ?_
 ·intro k8 h;revert h;refine loop_while (fun (v9,v10,v11)=>⟨AV.ref 0 0::AV.d (D.i a1)::X::X::AV.ref 5 0::AV.ref 6 0::AV.d (D.i v9)::dd 59 ([]),some (OB.box (Deck.av v10))::nn 4 (some (OB.box Update.zv)::some (OB.box [AV.own 29 (List.map Prefix.toD v11).length,AV.d (D.i v1.Origin),AV.d (D.l 2 Segment.toD v1.Path),AV.d (D.b v1.Next.V6),AV.d (D.u64 v1.Next.Hi),AV.d (D.u64 v1.Next.Lo),AV.d (D.i v1.MED),AV.d (D.i v1.Pref),AV.d (D.i v1.OTC),AV.d (D.l 2 Community.toD v1.Communities),AV.d (D.l 3 Large.toD v1.Large),AV.d (D.l 3 Unknown.toD v1.Other),AV.d (D.nil 4)])::nn 22 (some (OB.row 50 4 (List.map Prefix.toD v11) false)::nn 37 ([])))⟩) ?_ ?_
  ·exact wk
  rintro next12 ⟨v9,v10,v11⟩ K13 h hK14;revert h;refine cut_join (fun (v15,v16)=>⟨AV.ref 0 0::AV.d (D.i a1)::X::X::AV.ref 5 0::AV.ref 6 0::AV.d (D.i v9)::dd 13 (AV.d (D.b v15)::dd 45 ([])),some (OB.box (Deck.av v16))::nn 4 (some (OB.box Update.zv)::some (OB.box [AV.own 29 (List.map Prefix.toD v11).length,AV.d (D.i v1.Origin),AV.d (D.l 2 Segment.toD v1.Path),AV.d (D.b v1.Next.V6),AV.d (D.u64 v1.Next.Hi),AV.d (D.u64 v1.Next.Lo),AV.d (D.i v1.MED),AV.d (D.i v1.Pref),AV.d (D.i v1.OTC),AV.d (D.l 2 Community.toD v1.Communities),AV.d (D.l 3 Large.toD v1.Large),AV.d (D.l 3 Unknown.toD v1.Other),AV.d (D.nil 4)])::nn 22 (some (OB.row 50 4 (List.map Prefix.toD v11) false)::nn 37 ([])))⟩) ?_ ?_
  ·intro k17 h;revert h;refine sel_if ?_ ?_<;>intro h
   ·obtain ⟨⟨v18,v19⟩,g20,h⟩:=bind_inv h;refine ⟨_,_,some [],mill_Deck_Next_ok g20,?_⟩;exact join_end wk h
   ·exact join_end wk h
  ·rintro ⟨v15,v16⟩ h;(conv=>whnf);refine .go ?_;revert h;refine sel_if ?_ ?_<;>intro h
   ·(conv=>whnf);refine .go ?_;(conv=>whnf);refine dOB (by kernel_rfl) ?_;obtain ⟨⟨v21,v22⟩,g23,h⟩:=bind_inv h;refine ⟨_,_,mill_Deck_Prefix_ok g23,.inl rfl,?_⟩;refine ⟨rfl,?_⟩;obtain ⟨v24,g25,h⟩:=bind_inv h;refine ⟨rfl,apnd_b (f:=Prefix.toD) (g:=Prefix.toD) g25,_,apnd_z (f:=Prefix.toD) g25,?_⟩;(conv=>whnf);refine cOB (by kernel_rfl) ?_;refine ⟨_,rfl,?_⟩;exact hK14 _ _ wk h
   ·exact join_end wk h
 ·rintro ⟨v6,v7⟩ h;obtain ⟨⟨v26,v27⟩,g28,h⟩:=bind_inv h;refine ⟨_,_,some [],mill_Deck_Next_ok g28,?_⟩;revert h;refine cut_join (fun (v29,v30,v31,v32,v33,v34,v35,v36,v37,v38,v39,v40,v41)=>⟨dd 4 (AV.ref 5 0::AV.ref 6 0::dd 60 ([])),some (OB.box (Deck.av v29))::nn 4 (some (OB.box Update.zv)::some (OB.box [AV.own 29 (List.map Prefix.toD v7).length,AV.d (D.i v30),AV.d (D.l 2 Segment.toD v31),AV.d (D.b v32),AV.d (D.u64 v33),AV.d (D.u64 v34),AV.d (D.i v35),AV.d (D.i v36),AV.d (D.i v37),AV.d (D.l 2 Community.toD v38),AV.d (D.l 3 Large.toD v39),AV.d (D.l 3 Unknown.toD v40),AV.own 42 (List.map Prefix.toD v41).length])::nn 22 (some (OB.row 50 4 (List.map Prefix.toD v7) false)::nn 12 (some (OB.row 50 4 (List.map Prefix.toD v41) false)::nn 24 ([]))))⟩) ?_ ?_
  ·intro k42 h;revert h;refine sel_if ?_ ?_<;>intro h
   ·obtain ⟨⟨v43,v44⟩,g45,h⟩:=bind_inv h;refine ⟨_,_,some [],mill_Deck_Route_ok g45,?_⟩;obtain ⟨⟨v46,v47⟩,g48,h⟩:=bind_inv h;refine ⟨_,_,some [],mill_Deck_Next_ok g48,?_⟩;revert h;refine cut_join (fun (v49,v50)=>⟨dd 4 (AV.ref 5 0::AV.ref 6 0::dd 60 ([])),some (OB.box (Deck.av v49))::nn 4 (some (OB.box Update.zv)::some (OB.box [AV.own 29 (List.map Prefix.toD v7).length,AV.d (D.i v43.Attrs.Origin),AV.d (D.l 2 Segment.toD v43.Attrs.Path),AV.d (D.b v43.Attrs.Next.V6),AV.d (D.u64 v43.Attrs.Next.Hi),AV.d (D.u64 v43.Attrs.Next.Lo),AV.d (D.i v43.Attrs.MED),AV.d (D.i v43.Attrs.Pref),AV.d (D.i v43.Attrs.OTC),AV.d (D.l 2 Community.toD v43.Attrs.Communities),AV.d (D.l 3 Large.toD v43.Attrs.Large),AV.d (D.l 3 Unknown.toD v43.Attrs.Other),AV.own 42 (List.map Prefix.toD v50).length])::nn 22 (some (OB.row 50 4 (List.map Prefix.toD v7) false)::nn 12 (some (OB.row 50 4 (List.map Prefix.toD v50) false)::nn 24 ([]))))⟩) ?_ ?_
    ·intro k51 h;revert h;refine loop_while (fun (v52,v53,v54)=>⟨AV.ref 0 0::X::X::X::AV.ref 5 0::AV.ref 6 0::X::AV.ref 8 0::AV.d (D.i v52)::dd 57 ([]),some (OB.box (Deck.av v53))::nn 4 (some (OB.box Update.zv)::some (OB.box [AV.own 29 (List.map Prefix.toD v7).length,AV.d (D.i v43.Attrs.Origin),AV.d (D.l 2 Segment.toD v43.Attrs.Path),AV.d (D.b v43.Attrs.Next.V6),AV.d (D.u64 v43.Attrs.Next.Hi),AV.d (D.u64 v43.Attrs.Next.Lo),AV.d (D.i v43.Attrs.MED),AV.d (D.i v43.Attrs.Pref),AV.d (D.i v43.Attrs.OTC),AV.d (D.l 2 Community.toD v43.Attrs.Communities),AV.d (D.l 3 Large.toD v43.Attrs.Large),AV.d (D.l 3 Unknown.toD v43.Attrs.Other),AV.own 42 (List.map Prefix.toD v54).length])::N::some (OB.box (Route.av v43))::nn 20 (some (OB.row 50 4 (List.map Prefix.toD v7) false)::nn 12 (some (OB.row 50 4 (List.map Prefix.toD v54) false)::nn 24 ([]))))⟩) ?_ ?_
     ·exact wk
     rintro next55 ⟨v52,v53,v54⟩ K56 h hK57;(conv=>whnf);refine .go ?_;revert h;refine sel_if ?_ ?_<;>intro h
     ·(conv=>whnf);refine .go ?_;obtain ⟨⟨v58,v59⟩,g60,h⟩:=bind_inv h;refine ⟨_,_,some [],mill_Deck_Prefix_ok g60,?_⟩;revert h;refine cut_join (fun v61=>⟨AV.ref 0 0::X::X::X::AV.ref 5 0::AV.ref 6 0::X::AV.ref 8 0::AV.d (D.i v52)::dd 57 ([]),some (OB.box (Deck.av v59))::nn 4 (some (OB.box Update.zv)::some (OB.box [AV.own 29 (List.map Prefix.toD v7).length,AV.d (D.i v43.Attrs.Origin),AV.d (D.l 2 Segment.toD v43.Attrs.Path),AV.d (D.b v43.Attrs.Next.V6),AV.d (D.u64 v43.Attrs.Next.Hi),AV.d (D.u64 v43.Attrs.Next.Lo),AV.d (D.i v43.Attrs.MED),AV.d (D.i v43.Attrs.Pref),AV.d (D.i v43.Attrs.OTC),AV.d (D.l 2 Community.toD v43.Attrs.Communities),AV.d (D.l 3 Large.toD v43.Attrs.Large),AV.d (D.l 3 Unknown.toD v43.Attrs.Other),AV.own 42 (List.map Prefix.toD v61).length])::N::some (OB.box (Route.av v43))::nn 20 (some (OB.row 50 4 (List.map Prefix.toD v7) false)::nn 12 (some (OB.row 50 4 (List.map Prefix.toD v61) false)::nn 24 ([]))))⟩) ?_ ?_
      ·intro k62 h;revert h;refine sel_if ?_ ?_<;>intro h
       ·refine ⟨rfl,?_⟩;obtain ⟨v63,g64,h⟩:=bind_inv h;refine ⟨rfl,apnd_b (f:=Prefix.toD) (g:=Prefix.toD) g64,_,apnd_z (f:=Prefix.toD) g64,?_⟩;exact join_end wk h
       ·exact join_end wk h
      ·rintro v61 h;refine ⟨_,rfl,?_⟩;exact hK57 _ _ wk h
     ·exact join_end wk h
    ·rintro ⟨v49,v50⟩ h;exact join_end wk h
   ·exact join_end wk h
  ·rintro ⟨v29,v30,v31,v32,v33,v34,v35,v36,v37,v38,v39,v40,v41⟩ h;(conv=>whnf);refine .inl ?_;refine ⟨rfl,?_⟩;refine ⟨rfl,?_⟩;cases h;exact ⟨rfl,rfl⟩
theorem mill_Deck_Record_ok {a0:Deck} {a1:Server} {r:Record×Deck} (h:mill_Deck_Record a0 a1=some r):CallsOK Tryz.prog 39 [.ref 0 0,AV.d (Server.toD a1)] [.box (Deck.av a0)] (.d (Record.toD r.1)) [.box (Deck.av r.2)]:=by
 refine ok Tryz.f39 (by kernel_rfl) (by kernel_rfl) ⟨rfl,?_⟩;unfold mill_Deck_Record at h;refine ⟨a1.Policies.length,List.length_map _,?_⟩;refine ⟨_,rfl,?_⟩;obtain ⟨⟨v1,v2⟩,g3,h⟩:=bind_inv h;refine ⟨_,_,some [],mill_Deck_Next_ok g3,?_⟩;refine ⟨_,rfl,?_⟩;obtain ⟨⟨v4,v5⟩,g6,h⟩:=bind_inv h;refine ⟨_,_,some [],mill_Deck_Next_ok g6,?_⟩;obtain ⟨v7,g8,h⟩:=bind_inv h;refine ⟨rfl,geti_b (f:=D.i) g8,?_⟩;refine ⟨rfl,D.i v7,(geti_d (f:=D.i) g8),?_⟩;(conv=>whnf);refine .go ?_;revert h;refine cut_join (fun (v9,v10)=>⟨dd 4 (AV.ref 5 0::X::AV.ref 7 0::dd 45 ([])),some (OB.box (Deck.av v9))::nn 4 (some (OB.box Record.zv)::N::some (OB.box (Record.av v10))::nn 45 ([]))⟩) ?_ ?_
 ·intro k11 h;revert h;refine sel_if ?_ ?_<;>intro h
  ·obtain ⟨⟨v12,v13⟩,g14,h⟩:=bind_inv h;refine ⟨_,_,some [],mill_Deck_Update_ok g14,?_⟩;exact join_end wk h
  ·revert h;refine cut_join (fun (v15,v16)=>⟨dd 4 (AV.ref 5 0::X::AV.ref 7 0::dd 45 ([])),some (OB.box (Deck.av v15))::nn 4 (some (OB.box Record.zv)::N::some (OB.box (Record.av v16))::nn 45 ([]))⟩) ?_ ?_
   ·intro k17 h;revert h;refine sel_if ?_ ?_<;>intro h
    ·(conv=>whnf);refine dOB (by kernel_rfl) ?_;obtain ⟨⟨v18,v19⟩,g20,h⟩:=bind_inv h;refine ⟨_,_,mill_Deck_Next_ok g20,.inl rfl,?_⟩;obtain ⟨⟨v21,v22⟩,g23,h⟩:=bind_inv h;refine ⟨_,_,mill_Deck_Next_ok g23,.inl rfl,?_⟩;obtain ⟨v24,g25,h⟩:=bind_inv h;refine ⟨rfl,geti_b (f:=D.i) g25,?_⟩;refine ⟨rfl,D.i v24,(geti_d (f:=D.i) g25),?_⟩;(conv=>whnf);refine cOB (by kernel_rfl) ?_;exact join_end wk h
    ·revert h;refine cut_join (fun (v26,v27)=>⟨dd 4 (AV.ref 5 0::X::AV.ref 7 0::dd 45 ([])),some (OB.box (Deck.av v26))::nn 4 (some (OB.box Record.zv)::N::some (OB.box (Record.av v27))::nn 45 ([]))⟩) ?_ ?_
     ·intro k28 h;revert h;refine sel_if ?_ ?_<;>intro h
      ·obtain ⟨⟨v29,v30⟩,g31,h⟩:=bind_inv h;refine ⟨_,_,some [],mill_Deck_Policy_ok g31,?_⟩;exact join_end wk h
      ·revert h;refine cut_join (fun (v32,v33)=>⟨dd 4 (AV.ref 5 0::X::AV.ref 7 0::dd 45 ([])),some (OB.box (Deck.av v32))::nn 4 (some (OB.box Record.zv)::N::some (OB.box [AV.d (D.i v7),AV.d (D.i (i64w (101 + v1))),AV.d (D.i 0),AV.d (D.i v33),AV.d (D.nil 4),AV.d (D.i 0),AV.d (D.nil 2),AV.d (D.b false),AV.d (D.u64 (0:UInt64)),AV.d (D.u64 (0:UInt64)),AV.d (D.i 0),AV.d (D.i 0),AV.d (D.i 0),AV.d (D.nil 2),AV.d (D.nil 3),AV.d (D.nil 3),AV.d (D.nil 4),AV.d (D.i 0),AV.d (D.b false),AV.d (D.b false),AV.d (D.b false),AV.d (D.i 0),AV.d (D.nil 1),AV.d (D.nil 2)])::nn 45 ([]))⟩) ?_ ?_
       ·intro k34 h;revert h;refine sel_if ?_ ?_<;>intro h
        ·obtain ⟨⟨v35,v36⟩,g37,h⟩:=bind_inv h;refine ⟨_,_,some [],mill_Deck_Next_ok g37,?_⟩;exact join_end wk h
        ·exact join_end wk h
       ·rintro ⟨v32,v33⟩ h;exact join_end wk h
     ·rintro ⟨v26,v27⟩ h;exact join_end wk h
   ·rintro ⟨v15,v16⟩ h;exact join_end wk h
 ·rintro ⟨v9,v10⟩ h;cases h;exact ⟨rfl,rfl⟩
theorem ref15_Same_ok {a0:List Segment} {a1:List Segment} {r:Bool} (h:ref15_Same a0 a1=some r):CallsOK Tryz.prog 126 [AV.d (D.l 2 Segment.toD a0),AV.d (D.l 2 Segment.toD a1)] [] (.d (D.b r)) []:=by
 refine ok Tryz.f126 (by kernel_rfl) (by kernel_rfl) ⟨rfl,?_⟩;unfold ref15_Same at h;refine ⟨a0.length,List.length_map _,?_⟩;refine ⟨a1.length,List.length_map _,?_⟩;(conv=>whnf);refine .go ?_;revert h;refine sel_if ?_ ?_<;>intro h
 ·cases h;exact ⟨rfl,rfl⟩
 ·refine ⟨a0.length,List.length_map _,?_⟩;revert h;refine cut_join (fun _=>⟨dd 61 ([]),nn 61 ([])⟩) ?_ ?_
  ·intro k1 h;revert h;refine loop_for 14 2 Segment.toD rfl (fun i2 _=>⟨X::AV.d (D.l 2 Segment.toD a1)::dd 12 (AV.d (D.l 2 Segment.toD a0)::AV.d (D.i (a0.length:Int))::AV.d (D.i (i2:Int))::dd 44 ([])),nn 61 ([])⟩) ?_ ?_ ?_
   ·exact wk
   ·rintro _ K3 h;(conv=>whnf);refine .go ?_;(conv=>whnf);refine sel_f lt_f ?_;exact join_end wk h
   ·rintro next4 i2 x5 _ K3 hii2 hxi2 hwi2 h hK6;(conv=>whnf);refine .go ?_;(conv=>whnf);refine sel_t (lt_t hii2) ?_;revert h;refine cut_join (fun _=>⟨X::AV.d (D.l 2 Segment.toD a1)::dd 12 (AV.d (D.l 2 Segment.toD a0)::AV.d (D.i (a0.length:Int))::AV.d (D.i (i2:Int))::dd 44 ([])),nn 61 ([])⟩) ?_ ?_
    ·intro k7 h;refine ⟨idx_b (f:=Segment.toD) hii2,Segment.toD x5,hxi2,rfl,?_⟩;revert h;refine cut_join (fun v8=>⟨X::AV.d (D.l 2 Segment.toD a1)::X::X::X::AV.d (D.i (i2:Int))::AV.ref 6 0::dd 7 (AV.d (D.l 2 Segment.toD a0)::AV.d (D.i (a0.length:Int))::AV.d (D.i (i2:Int))::dd 23 (AV.d (D.b v8)::dd 20 ([]))),nn 6 (some (OB.box (Segment.av x5))::nn 54 ([]))⟩) ?_ ?_
     ·intro k9 h;(conv=>whnf);refine dOB (by kernel_rfl) ?_;obtain ⟨v10,g11,h⟩:=bind_inv h;refine ⟨geti_b (f:=Segment.toD) g11,Segment.toD v10,geti_d (f:=Segment.toD) g11,rfl,?_⟩;revert h;refine sel_if ?_ ?_<;>intro h
      ·(conv=>whnf);refine cOB (by kernel_rfl) ?_;exact join_end wk h
      ·refine ⟨x5.ASNs.length,List.length_map _,?_⟩;obtain ⟨v12,g13,h⟩:=bind_inv h;refine ⟨geti_b (f:=Segment.toD) g13,Segment.toD v12,geti_d (f:=Segment.toD) g13,rfl,?_⟩;refine ⟨v12.ASNs.length,List.length_map _,?_⟩;(conv=>whnf);refine cOB (by kernel_rfl) ?_;exact join_end wk h
     ·rintro v8 h;(conv=>whnf);refine .go ?_;revert h;refine sel_if ?_ ?_<;>intro h
      ·cases h;exact ⟨rfl,rfl⟩
      ·refine ⟨x5.ASNs.length,List.length_map _,?_⟩;revert h;refine cut_join (fun _=>⟨X::AV.d (D.l 2 Segment.toD a1)::dd 12 (AV.d (D.l 2 Segment.toD a0)::AV.d (D.i (a0.length:Int))::AV.d (D.i (i2:Int))::dd 44 ([])),nn 61 ([])⟩) ?_ ?_
       ·intro k14 h;revert h;refine loop_for 42 1 D.i rfl (fun i15 _=>⟨X::AV.d (D.l 2 Segment.toD a1)::X::X::X::AV.d (D.i (i2:Int))::dd 8 (AV.d (D.l 2 Segment.toD a0)::AV.d (D.i (a0.length:Int))::AV.d (D.i (i2:Int))::dd 25 (AV.d (D.l 1 D.i x5.ASNs)::AV.d (D.i (x5.ASNs.length:Int))::AV.d (D.i (i15:Int))::dd 16 ([]))),nn 61 ([])⟩) ?_ ?_ ?_
        ·exact wk
        ·rintro _ K16 h;(conv=>whnf);refine .go ?_;(conv=>whnf);refine sel_f lt_f ?_;exact join_end wk h
        ·rintro next17 i15 x18 _ K16 hii15 hxi15 hwi15 h hK19;(conv=>whnf);refine .go ?_;(conv=>whnf);refine sel_t (lt_t hii15) ?_;(conv=>whnf);refine .go ?_;refine ⟨idx_b (f:=D.i) hii15,D.i x18,hxi15,rfl,?_⟩;obtain ⟨v20,g21,h⟩:=bind_inv h;refine ⟨geti_b (f:=Segment.toD) g21,Segment.toD v20,geti_d (f:=Segment.toD) g21,rfl,?_⟩;obtain ⟨v22,g23,h⟩:=bind_inv h;refine ⟨geti_b (f:=D.i) g23,D.i v22,geti_d (f:=D.i) g23,rfl,?_⟩;(conv=>whnf);refine .go ?_;revert h;refine sel_if ?_ ?_<;>intro h
         ·cases h;exact ⟨rfl,rfl⟩
         ·refine ⟨_,hwi15,?_⟩;exact hK19 _ _ wk h
       ·rintro _ h;exact join_end wk h
    ·rintro _ h;refine ⟨_,hwi2,?_⟩;exact hK6 _ _ wk h
  ·rintro _ h;cases h;exact ⟨rfl,rfl⟩
end Go.AX.Q35
end
section
namespace Go.AX.Q35
open Go Go.AX Go.Proofs
set_option maxRecDepth 100000
set_option maxHeartbeats 4000000
set_option linter.unusedVariables false
theorem ref17_Same_ok {a0:List Community} {a1:List Community} {r:Bool} (h:ref17_Same a0 a1=some r):CallsOK Tryz.prog 127 [AV.d (D.l 2 Community.toD a0),AV.d (D.l 2 Community.toD a1)] [] (.d (D.b r)) []:=by
 refine ok Tryz.f127 (by kernel_rfl) (by kernel_rfl) ⟨rfl,?_⟩;unfold ref17_Same at h;refine ⟨a0.length,List.length_map _,?_⟩;refine ⟨a1.length,List.length_map _,?_⟩;(conv=>whnf);refine .go ?_;revert h;refine sel_if ?_ ?_<;>intro h
 ·cases h;exact ⟨rfl,rfl⟩
 ·refine ⟨a0.length,List.length_map _,?_⟩;revert h;refine cut_join (fun _=>⟨dd 26 ([]),nn 26 ([])⟩) ?_ ?_
  ·intro k1 h;revert h;refine loop_for 12 2 Community.toD rfl (fun i2 _=>⟨X::AV.d (D.l 2 Community.toD a1)::dd 10 (AV.d (D.l 2 Community.toD a0)::AV.d (D.i (a0.length:Int))::AV.d (D.i (i2:Int))::dd 11 ([])),nn 26 ([])⟩) ?_ ?_ ?_
   ·exact wk
   ·rintro _ K3 h;(conv=>whnf);refine .go ?_;(conv=>whnf);refine sel_f lt_f ?_;exact join_end wk h
   ·rintro next4 i2 x5 _ K3 hii2 hxi2 hwi2 h hK6;(conv=>whnf);refine .go ?_;(conv=>whnf);refine sel_t (lt_t hii2) ?_;(conv=>whnf);refine .go ?_;refine ⟨idx_b (f:=Community.toD) hii2,Community.toD x5,hxi2,rfl,?_⟩;(conv=>whnf);refine dOB (by kernel_rfl) ?_;obtain ⟨v7,g8,h⟩:=bind_inv h;refine ⟨geti_b (f:=Community.toD) g8,Community.toD v7,geti_d (f:=Community.toD) g8,rfl,?_⟩;(conv=>whnf);refine cOB (by kernel_rfl) ?_;(conv=>whnf);refine .go ?_;revert h;refine sel_if ?_ ?_<;>intro h
    ·cases h;exact ⟨rfl,rfl⟩
    ·refine ⟨_,hwi2,?_⟩;exact hK6 _ _ wk h
  ·rintro _ h;cases h;exact ⟨rfl,rfl⟩
theorem ref17_SameLarge_ok {a0:List Large} {a1:List Large} {r:Bool} (h:ref17_SameLarge a0 a1=some r):CallsOK Tryz.prog 128 [AV.d (D.l 3 Large.toD a0),AV.d (D.l 3 Large.toD a1)] [] (.d (D.b r)) []:=by
 refine ok Tryz.f128 (by kernel_rfl) (by kernel_rfl) ⟨rfl,?_⟩;unfold ref17_SameLarge at h;refine ⟨a0.length,List.length_map _,?_⟩;refine ⟨a1.length,List.length_map _,?_⟩;(conv=>whnf);refine .go ?_;revert h;refine sel_if ?_ ?_<;>intro h
 ·cases h;exact ⟨rfl,rfl⟩
 ·refine ⟨a0.length,List.length_map _,?_⟩;revert h;refine cut_join (fun _=>⟨dd 26 ([]),nn 26 ([])⟩) ?_ ?_
  ·intro k1 h;revert h;refine loop_for 12 3 Large.toD rfl (fun i2 _=>⟨X::AV.d (D.l 3 Large.toD a1)::dd 10 (AV.d (D.l 3 Large.toD a0)::AV.d (D.i (a0.length:Int))::AV.d (D.i (i2:Int))::dd 11 ([])),nn 26 ([])⟩) ?_ ?_ ?_
   ·exact wk
   ·rintro _ K3 h;(conv=>whnf);refine .go ?_;(conv=>whnf);refine sel_f lt_f ?_;exact join_end wk h
   ·rintro next4 i2 x5 _ K3 hii2 hxi2 hwi2 h hK6;(conv=>whnf);refine .go ?_;(conv=>whnf);refine sel_t (lt_t hii2) ?_;(conv=>whnf);refine .go ?_;refine ⟨idx_b (f:=Large.toD) hii2,Large.toD x5,hxi2,rfl,?_⟩;(conv=>whnf);refine dOB (by kernel_rfl) ?_;obtain ⟨v7,g8,h⟩:=bind_inv h;refine ⟨geti_b (f:=Large.toD) g8,Large.toD v7,geti_d (f:=Large.toD) g8,rfl,?_⟩;(conv=>whnf);refine cOB (by kernel_rfl) ?_;(conv=>whnf);refine .go ?_;revert h;refine sel_if ?_ ?_<;>intro h
    ·cases h;exact ⟨rfl,rfl⟩
    ·refine ⟨_,hwi2,?_⟩;exact hK6 _ _ wk h
  ·rintro _ h;cases h;exact ⟨rfl,rfl⟩
theorem ref18_SameList_ok {a0:List Unknown} {a1:List Unknown} {r:Bool} (h:ref18_SameList a0 a1=some r):CallsOK Tryz.prog 129 [AV.d (D.l 3 Unknown.toD a0),AV.d (D.l 3 Unknown.toD a1)] [] (.d (D.b r)) []:=by
 refine ok Tryz.f129 (by kernel_rfl) (by kernel_rfl) ⟨rfl,?_⟩;unfold ref18_SameList at h;refine ⟨a0.length,List.length_map _,?_⟩;refine ⟨a1.length,List.length_map _,?_⟩;(conv=>whnf);refine .go ?_;revert h;refine sel_if ?_ ?_<;>intro h
 ·cases h;exact ⟨rfl,rfl⟩
 ·refine ⟨a0.length,List.length_map _,?_⟩;revert h;refine cut_join (fun _=>⟨dd 50 ([]),nn 50 ([])⟩) ?_ ?_
  ·intro k1 h;revert h;refine loop_for 12 3 Unknown.toD rfl (fun i2 _=>⟨X::AV.d (D.l 3 Unknown.toD a1)::dd 10 (AV.d (D.l 3 Unknown.toD a0)::AV.d (D.i (a0.length:Int))::AV.d (D.i (i2:Int))::dd 35 ([])),nn 50 ([])⟩) ?_ ?_ ?_
   ·exact wk
   ·rintro _ K3 h;(conv=>whnf);refine .go ?_;(conv=>whnf);refine sel_f lt_f ?_;exact join_end wk h
   ·rintro next4 i2 x5 _ K3 hii2 hxi2 hwi2 h hK6;(conv=>whnf);refine .go ?_;(conv=>whnf);refine sel_t (lt_t hii2) ?_;(conv=>whnf);refine .go ?_;refine ⟨idx_b (f:=Unknown.toD) hii2,Unknown.toD x5,hxi2,rfl,?_⟩;revert h;refine cut_join (fun v7=>⟨X::AV.d (D.l 3 Unknown.toD a1)::dd 10 (AV.d (D.l 3 Unknown.toD a0)::AV.d (D.i (a0.length:Int))::AV.d (D.i (i2:Int))::dd 33 (AV.d (D.b v7)::X::[])),nn 50 ([])⟩) ?_ ?_
    ·intro k8 h;(conv=>whnf);refine dOB (by kernel_rfl) ?_;obtain ⟨v9,g10,h⟩:=bind_inv h;refine ⟨geti_b (f:=Unknown.toD) g10,Unknown.toD v9,geti_d (f:=Unknown.toD) g10,rfl,?_⟩;revert h;refine sel_if ?_ ?_<;>intro h
     ·(conv=>whnf);refine cOB (by kernel_rfl) ?_;exact join_end wk h
     ·obtain ⟨v11,g12,h⟩:=bind_inv h;refine ⟨geti_b (f:=Unknown.toD) g12,Unknown.toD v11,geti_d (f:=Unknown.toD) g12,rfl,?_⟩;revert h;refine sel_if ?_ ?_<;>intro h
      ·(conv=>whnf);refine cOB (by kernel_rfl) ?_;exact join_end wk h
      ·refine ⟨x5.Data,rfl,?_⟩;obtain ⟨v13,g14,h⟩:=bind_inv h;refine ⟨geti_b (f:=Unknown.toD) g14,Unknown.toD v13,geti_d (f:=Unknown.toD) g14,rfl,?_⟩;refine ⟨v13.Data,rfl,?_⟩;(conv=>whnf);refine cOB (by kernel_rfl) ?_;exact join_end wk h
    ·rintro v7 h;(conv=>whnf);refine .go ?_;revert h;refine sel_if ?_ ?_<;>intro h
     ·cases h;exact ⟨rfl,rfl⟩
     ·refine ⟨_,hwi2,?_⟩;exact hK6 _ _ wk h
  ·rintro _ h;cases h;exact ⟨rfl,rfl⟩
theorem ref18_Same_ok {a0:Attrs} {a1:Attrs} {r:Bool} (h:ref18_Same a0 a1=some r):CallsOK Tryz.prog 110 [AV.d (Attrs.toD a0),AV.d (Attrs.toD a1)] [] (.d (D.b r)) []:=by
 refine ok Tryz.f110 (by kernel_rfl) (by kernel_rfl) ⟨rfl,?_⟩;unfold ref18_Same at h;revert h;refine cut_join (fun v1=>⟨dd 4 (AV.d (D.b v1)::dd 61 ([])),nn 66 ([])⟩) ?_ ?_
 ·intro k2 h;revert h;refine sel_if ?_ ?_<;>intro h
  ·obtain ⟨v3,g4,h⟩:=bind_inv h;refine ⟨_,_,some [],ref15_Same_ok g4,?_⟩;revert h;refine sel_if ?_ ?_<;>intro h
   ·revert h;refine sel_if ?_ ?_<;>intro h
    ·revert h;refine sel_if ?_ ?_<;>intro h
     ·revert h;refine sel_if ?_ ?_<;>intro h
      ·revert h;refine sel_if ?_ ?_<;>intro h
       ·obtain ⟨v5,g6,h⟩:=bind_inv h;refine ⟨_,_,some [],ref17_Same_ok g6,?_⟩;revert h;refine sel_if ?_ ?_<;>intro h
        ·obtain ⟨v7,g8,h⟩:=bind_inv h;refine ⟨_,_,some [],ref17_SameLarge_ok g8,?_⟩;revert h;refine sel_if ?_ ?_<;>intro h
         ·obtain ⟨v9,g10,h⟩:=bind_inv h;refine ⟨_,_,some [],ref18_SameList_ok g10,?_⟩;exact join_end wk h
         ·exact join_end wk h
        ·exact join_end wk h
       ·exact join_end wk h
      ·exact join_end wk h
     ·exact join_end wk h
    ·exact join_end wk h
   ·exact join_end wk h
  ·exact join_end wk h
 ·rintro v1 h;cases h;exact ⟨rfl,rfl⟩
theorem ref18_word_ok {a0:Int} {a1:Int} {r:(List UInt8)} (h:ref18_word a0 a1=some r):CallsOK Tryz.prog 146 [AV.d (D.i a0),AV.d (D.i a1)] [] (.d (D.l 1 D.u8 r)) []:=by
 refine ok Tryz.f146 (by kernel_rfl) (by kernel_rfl) ⟨rfl,?_⟩;unfold ref18_word at h;refine ⟨_,rfl,?_⟩;revert h;refine cut_join (fun v1=>⟨dd 5 (AV.own 5 (List.map D.u8 v1).length::dd 17 ([])),nn 5 (some (OB.row 5 1 (List.map D.u8 v1) false)::nn 17 ([]))⟩) ?_ ?_
 ·intro k2 h;revert h;refine loop_while (fun (v3,v4)=>⟨AV.d (D.i a0)::dd 4 (AV.own 5 (List.map D.u8 v4).length::AV.d (D.i v3)::dd 16 ([])),nn 5 (some (OB.row 5 1 (List.map D.u8 v4) false)::nn 17 ([]))⟩) ?_ ?_
  ·exact wk
  rintro next5 ⟨v3,v4⟩ K6 h hK7;(conv=>whnf);refine .go ?_;revert h;refine sel_if ?_ ?_<;>intro h
  ·(conv=>whnf);refine .go ?_;refine ⟨_,u64_wrap _,?_⟩;refine ⟨_,u64_wrap _,?_⟩;refine ⟨Int.natCast_nonneg _,_,rfl,?_⟩;refine ⟨_,u8_wrap _,?_⟩;refine ⟨rfl,?_⟩;obtain ⟨v8,g9,h⟩:=bind_inv h;refine ⟨rfl,apnd_b (f:=D.u8) (g:=D.u8) g9,_,apnd_z (f:=D.u8) g9,?_⟩;refine ⟨_,rfl,?_⟩;exact hK7 _ _ wk h
  ·exact join_end wk h
 ·rintro v1 h;(conv=>whnf);refine .inl ?_;refine ⟨rfl,?_⟩;cases h;exact ⟨rfl,rfl⟩
end Go.AX.Q35
end
section
namespace Go.AX.Q35
open Go Go.AX Go.Proofs
set_option maxRecDepth 100000
set_option maxHeartbeats 4000000
set_option linter.unusedVariables false
theorem ref18_Write_ok {a0:Attrs} {r:(List Unknown)×Int} (h:ref18_Write a0=some r):CallsOK Tryz.prog 130 [AV.d (Attrs.toD a0)] [] (.tup [.d (D.l 3 Unknown.toD r.1),.d (D.i r.2)]) []:=by
 refine ok Tryz.f130 (by kernel_rfl) (by kernel_rfl) ⟨rfl,?_⟩;unfold ref18_Write at h;obtain ⟨v1,g2,h⟩:=bind_inv h;refine ⟨_,_,some [],ref18_Valid_ok g2,?_⟩;(conv=>whnf);refine .go ?_;revert h;refine sel_if ?_ ?_<;>intro h
 ·cases h;exact ⟨rfl,rfl⟩
 ·revert h;refine cut_join (fun v3=>⟨X::AV.ref 1 0::X::X::AV.own 4 (List.map Unknown.toD []).length::AV.mp 24::dd 189 ([]),N::some (OB.box (Attrs.av a0))::N::N::some (OB.row 138 3 (List.map Unknown.toD []) false)::nn 19 (some (OB.map 3 127 (entsD D.i (D.l 1 D.u8) v3))::nn 170 ([]))⟩) ?_ ?_
  ·intro k4 h;revert h;refine sel_if ?_ ?_<;>intro h
   ·refine ⟨_,u8_wrap _,?_⟩;(conv=>whnf);refine .inl ?_;refine ⟨rfl,?_⟩;refine ⟨_,mapSet_ok (ek:=D.i) (ev:=(D.l 1 D.u8)) (l:=[]) (k:=1) (v:=([(toU8 a0.Origin)]:List UInt8)) keyEq_i,?_⟩;exact join_end wk h
   ·exact join_end wk h
  ·rintro v3 h;revert h;refine cut_join (fun v5=>⟨X::AV.ref 1 0::X::X::AV.own 4 (List.map Unknown.toD []).length::AV.mp 24::dd 35 (AV.d (D.b v5)::dd 153 ([])),N::some (OB.box (Attrs.av a0))::N::N::some (OB.row 138 3 (List.map Unknown.toD []) false)::nn 19 (some (OB.map 3 127 (entsD D.i (D.l 1 D.u8) v3))::nn 170 ([]))⟩) ?_ ?_
   ·intro k6 h;revert h;refine sel_if ?_ ?_<;>intro h
    ·exact join_end wk h
    ·refine ⟨a0.Path.length,List.length_map _,?_⟩;exact join_end wk h
   ·rintro v5 h;revert h;refine cut_join (fun v7=>⟨X::AV.ref 1 0::X::X::AV.own 4 (List.map Unknown.toD []).length::AV.mp 24::dd 189 ([]),N::some (OB.box (Attrs.av a0))::N::N::some (OB.row 138 3 (List.map Unknown.toD []) false)::nn 19 (some (OB.map 3 127 (entsD D.i (D.l 1 D.u8) v7))::nn 170 ([]))⟩) ?_ ?_
    ·intro k8 h;revert h;refine sel_if ?_ ?_<;>intro h
     ·refine ⟨a0.Path.length,List.length_map _,?_⟩;revert h;refine cut_join (fun v9=>⟨X::AV.ref 1 0::X::X::AV.own 4 (List.map Unknown.toD []).length::AV.mp 24::AV.own 42 (List.map D.u8 v9).length::dd 188 ([]),N::some (OB.box (Attrs.av a0))::N::N::some (OB.row 138 3 (List.map Unknown.toD []) false)::nn 19 (some (OB.map 3 127 (entsD D.i (D.l 1 D.u8) v3))::nn 17 (some (OB.row 5 1 (List.map D.u8 v9) false)::nn 152 ([])))⟩) ?_ ?_
      ·intro k10 h;revert h;refine loop_for 44 2 Segment.toD rfl (fun i11 v12=>⟨X::AV.ref 1 0::X::X::AV.own 4 (List.map Unknown.toD []).length::AV.mp 24::AV.own 42 (List.map D.u8 v12).length::dd 37 (AV.d (D.l 2 Segment.toD a0.Path)::AV.d (D.i (a0.Path.length:Int))::AV.d (D.i (i11:Int))::dd 148 ([])),N::some (OB.box (Attrs.av a0))::N::N::some (OB.row 138 3 (List.map Unknown.toD []) false)::nn 19 (some (OB.map 3 127 (entsD D.i (D.l 1 D.u8) v3))::nn 17 (some (OB.row 5 1 (List.map D.u8 v12) false)::nn 152 ([])))⟩) ?_ ?_ ?_
       ·exact wk
       ·rintro v12 K13 h;(conv=>whnf);refine .go ?_;(conv=>whnf);refine sel_f lt_f ?_;exact join_end wk h
       ·rintro next14 i11 x15 v12 K13 hii11 hxi11 hwi11 h hK16;(conv=>whnf);refine .go ?_;(conv=>whnf);refine sel_t (lt_t hii11) ?_;revert h;refine cut_join (fun v17=>⟨X::AV.ref 1 0::X::X::AV.own 4 (List.map Unknown.toD []).length::AV.mp 24::AV.own 42 (List.map D.u8 v17).length::dd 37 (AV.d (D.l 2 Segment.toD a0.Path)::AV.d (D.i (a0.Path.length:Int))::AV.d (D.i (i11:Int))::dd 148 ([])),N::some (OB.box (Attrs.av a0))::N::N::some (OB.row 138 3 (List.map Unknown.toD []) false)::nn 19 (some (OB.map 3 127 (entsD D.i (D.l 1 D.u8) v3))::nn 17 (some (OB.row 5 1 (List.map D.u8 v17) false)::nn 152 ([])))⟩) ?_ ?_
        ·intro k18 h;refine ⟨idx_b (f:=Segment.toD) hii11,Segment.toD x15,hxi11,rfl,?_⟩;revert h;refine cut_join (fun v19=>⟨X::AV.ref 1 0::X::X::AV.own 4 (List.map Unknown.toD []).length::AV.mp 24::AV.own 42 (List.map D.u8 v12).length::X::AV.ref 8 0::AV.d (D.u8 v19)::dd 34 (AV.d (D.l 2 Segment.toD a0.Path)::AV.d (D.i (a0.Path.length:Int))::AV.d (D.i (i11:Int))::dd 148 ([])),N::some (OB.box (Attrs.av a0))::N::N::some (OB.row 138 3 (List.map Unknown.toD []) false)::N::N::N::some (OB.box (Segment.av x15))::nn 15 (some (OB.map 3 127 (entsD D.i (D.l 1 D.u8) v3))::nn 17 (some (OB.row 5 1 (List.map D.u8 v12) false)::nn 152 ([])))⟩) ?_ ?_
         ·intro k20 h;revert h;refine sel_if ?_ ?_<;>intro h
          ·exact join_end wk h
          ·exact join_end wk h
         ·rintro v19 h;refine ⟨x15.ASNs.length,List.length_map _,?_⟩;refine ⟨_,u8_wrap _,?_⟩;refine ⟨rfl,?_⟩;obtain ⟨v21,g22,h⟩:=bind_inv h;refine ⟨rfl,apnd_b (f:=D.u8) (g:=D.u8) g22,_,apnd_z (f:=D.u8) g22,?_⟩;refine ⟨x15.ASNs.length,List.length_map _,?_⟩;revert h;refine cut_join (fun v23=>⟨X::AV.ref 1 0::X::X::AV.own 4 (List.map Unknown.toD []).length::AV.mp 24::AV.own 42 (List.map D.u8 v23).length::dd 37 (AV.d (D.l 2 Segment.toD a0.Path)::AV.d (D.i (a0.Path.length:Int))::AV.d (D.i (i11:Int))::dd 148 ([])),N::some (OB.box (Attrs.av a0))::N::N::some (OB.row 138 3 (List.map Unknown.toD []) false)::nn 19 (some (OB.map 3 127 (entsD D.i (D.l 1 D.u8) v3))::nn 17 (some (OB.row 5 1 (List.map D.u8 v23) false)::nn 152 ([])))⟩) ?_ ?_
          ·intro k24 h;revert h;refine loop_for 61 1 D.i rfl (fun i25 v26=>⟨X::AV.ref 1 0::X::X::AV.own 4 (List.map Unknown.toD []).length::AV.mp 24::AV.own 42 (List.map D.u8 v26).length::dd 37 (AV.d (D.l 2 Segment.toD a0.Path)::AV.d (D.i (a0.Path.length:Int))::AV.d (D.i (i11:Int))::dd 14 (AV.d (D.l 1 D.i x15.ASNs)::AV.d (D.i (x15.ASNs.length:Int))::AV.d (D.i (i25:Int))::dd 131 ([]))),N::some (OB.box (Attrs.av a0))::N::N::some (OB.row 138 3 (List.map Unknown.toD []) false)::nn 19 (some (OB.map 3 127 (entsD D.i (D.l 1 D.u8) v3))::nn 17 (some (OB.row 5 1 (List.map D.u8 v26) false)::nn 152 ([])))⟩) ?_ ?_ ?_
           ·exact wk
           ·rintro v26 K27 h;(conv=>whnf);refine .go ?_;(conv=>whnf);refine sel_f lt_f ?_;exact join_end wk h
           ·rintro next28 i25 x29 v26 K27 hii25 hxi25 hwi25 h hK30;(conv=>whnf);refine .go ?_;(conv=>whnf);refine sel_t (lt_t hii25) ?_;(conv=>whnf);refine .go ?_;refine ⟨idx_b (f:=D.i) hii25,D.i x29,hxi25,rfl,?_⟩;obtain ⟨v31,g32,h⟩:=bind_inv h;refine ⟨_,_,some [],ref18_word_ok g32,?_⟩;obtain ⟨v33,g34,h⟩:=bind_inv h;refine ⟨rfl,apnd_b (f:=D.u8) (g:=D.u8) g34,_,apnd_z (f:=D.u8) g34,?_⟩;refine ⟨_,hwi25,?_⟩;exact hK30 _ _ wk h
          ·rintro v23 h;exact join_end wk h
        ·rintro v17 h;refine ⟨_,hwi11,?_⟩;exact hK16 _ _ wk h
      ·rintro v9 h;(conv=>whnf);refine .inl ?_;refine ⟨rfl,?_⟩;refine ⟨_,mapSet_ok (ek:=D.i) (ev:=(D.l 1 D.u8)) (l:=v3) (k:=2) (v:=v9) keyEq_i,?_⟩;exact join_end wk h
     ·exact join_end wk h
    ·rintro v7 h;revert h;refine cut_join (fun v35=>⟨X::AV.ref 1 0::X::X::AV.own 4 (List.map Unknown.toD []).length::AV.mp 24::dd 78 (AV.d (D.b v35)::dd 110 ([])),N::some (OB.box (Attrs.av a0))::N::N::some (OB.row 138 3 (List.map Unknown.toD []) false)::nn 19 (some (OB.map 3 127 (entsD D.i (D.l 1 D.u8) v7))::nn 170 ([]))⟩) ?_ ?_
     ·intro k36 h;revert h;refine sel_if ?_ ?_<;>intro h
      ·exact join_end wk h
      ·exact join_end wk h
     ·rintro v35 h;revert h;refine cut_join (fun v37=>⟨X::AV.ref 1 0::X::X::AV.own 4 (List.map Unknown.toD []).length::AV.mp 24::dd 189 ([]),N::some (OB.box (Attrs.av a0))::N::N::some (OB.row 138 3 (List.map Unknown.toD []) false)::nn 19 (some (OB.map 3 127 (entsD D.i (D.l 1 D.u8) v37))::nn 170 ([]))⟩) ?_ ?_
      ·intro k38 h;revert h;refine sel_if ?_ ?_<;>intro h
       ·obtain ⟨v39,g40,h⟩:=bind_inv h;refine ⟨_,_,some [88],ref01_Bytes_ok g40,?_⟩;(conv=>whnf);refine .inl ?_;refine ⟨rfl,?_⟩;refine ⟨_,mapSet_ok (ek:=D.i) (ev:=(D.l 1 D.u8)) (l:=v7) (k:=3) (v:=v39) keyEq_i,?_⟩;exact join_end wk h
       ·exact join_end wk h
      ·rintro v37 h;revert h;refine cut_join (fun v41=>⟨X::AV.ref 1 0::X::X::AV.own 4 (List.map Unknown.toD []).length::AV.mp 24::dd 189 ([]),N::some (OB.box (Attrs.av a0))::N::N::some (OB.row 138 3 (List.map Unknown.toD []) false)::nn 19 (some (OB.map 3 127 (entsD D.i (D.l 1 D.u8) v41))::nn 170 ([]))⟩) ?_ ?_
       ·intro k42 h;revert h;refine sel_if ?_ ?_<;>intro h
        ·obtain ⟨v43,g44,h⟩:=bind_inv h;refine ⟨_,_,some [],ref18_word_ok g44,?_⟩;refine ⟨_,mapSet_ok (ek:=D.i) (ev:=(D.l 1 D.u8)) (l:=v37) (k:=4) (v:=v43) keyEq_i,?_⟩;exact join_end wk h
        ·exact join_end wk h
       ·rintro v41 h;revert h;refine cut_join (fun v45=>⟨X::AV.ref 1 0::X::X::AV.own 4 (List.map Unknown.toD []).length::AV.mp 24::dd 189 ([]),N::some (OB.box (Attrs.av a0))::N::N::some (OB.row 138 3 (List.map Unknown.toD []) false)::nn 19 (some (OB.map 3 127 (entsD D.i (D.l 1 D.u8) v45))::nn 170 ([]))⟩) ?_ ?_
        ·intro k46 h;revert h;refine sel_if ?_ ?_<;>intro h
         ·obtain ⟨v47,g48,h⟩:=bind_inv h;refine ⟨_,_,some [],ref18_word_ok g48,?_⟩;refine ⟨_,mapSet_ok (ek:=D.i) (ev:=(D.l 1 D.u8)) (l:=v41) (k:=5) (v:=v47) keyEq_i,?_⟩;exact join_end wk h
         ·exact join_end wk h
        ·rintro v45 h;refine ⟨a0.Communities.length,List.length_map _,?_⟩;revert h;refine cut_join (fun (v49,v50)=>⟨X::AV.ref 1 0::X::X::AV.own 4 (List.map Unknown.toD []).length::AV.mp 24::dd 189 ([]),N::some (OB.box (Attrs.av a0))::N::N::some (OB.row 138 3 (List.map Unknown.toD []) false)::nn 19 (some (OB.amap 3 127 (entsD D.i (D.l 1 D.u8) v49) (.int .i64 8) 112 (List.map D.u8 v50).length)::nn 87 (some (OB.row 5 1 (List.map D.u8 v50) true)::nn 82 ([])))⟩) ?_ ?_
         ·intro k51 h;obtain ⟨_,g52,h⟩:=bind_inv h;revert h;refine loop_for 104 2 Community.toD rfl (fun i53 (v54,v55)=>⟨X::AV.ref 1 0::X::X::AV.own 4 (List.map Unknown.toD []).length::AV.mp 24::dd 98 (AV.d (D.l 2 Community.toD a0.Communities)::AV.d (D.i (a0.Communities.length:Int))::AV.d (D.i (i53:Int))::dd 88 ([])),N::some (OB.box (Attrs.av a0))::N::N::some (OB.row 138 3 (List.map Unknown.toD []) false)::nn 19 (some (OB.amap 3 127 (entsD D.i (D.l 1 D.u8) v54) (.int .i64 8) 112 (List.map D.u8 v55).length)::nn 87 (some (OB.row 5 1 (List.map D.u8 v55) true)::nn 82 ([])))⟩) ?_ ?_ ?_
          ·exact (.mk rfl (And.intro (.refl _) (And.intro (.refl _) (And.intro (.refl _) (And.intro (.refl _) (And.intro (.refl _) (And.intro (.refl _) True.intro)))))) (And.intro ⟨_,rfl,And.intro ⟨rfl,.refl _⟩ (And.intro ⟨rfl,.refl _⟩ (And.intro ⟨rfl,.refl _⟩ (And.intro ⟨rfl,.refl _⟩ (And.intro ⟨rfl,.refl _⟩ (And.intro ⟨rfl,.refl _⟩ (And.intro ⟨rfl,.refl _⟩ (And.intro ⟨rfl,.refl _⟩ (And.intro ⟨rfl,.refl _⟩ (And.intro ⟨rfl,.refl _⟩ (And.intro ⟨rfl,.refl _⟩ (True.intro)))))))))))⟩ (And.intro (.inl ⟨_,rfl,id⟩) (And.intro (.inr ⟨.inl rfl,⟨_,mapGet_none keyEq_i g52⟩,rfl,rfl,_,_,_,rfl⟩) (And.intro (.inr ⟨rfl,rfl,by decide⟩) (True.intro))))) rfl)
          ·rintro ⟨v54,v55⟩ K56 h;(conv=>whnf);refine .go ?_;(conv=>whnf);refine sel_f lt_f ?_;exact join_end wk h
          ·rintro next57 i53 x58 ⟨v54,v55⟩ K56 hii53 hxi53 hwi53 h hK59;(conv=>whnf);refine .go ?_;(conv=>whnf);refine sel_t (lt_t hii53) ?_;(conv=>whnf);refine .go ?_;refine ⟨idx_b (f:=Community.toD) hii53,Community.toD x58,hxi53,rfl,?_⟩;(conv=>whnf);refine dOB (by kernel_rfl) ?_;(conv=>whnf);refine .inr ⟨rfl,rfl,⟨_,mapGet_ok (ek:=D.i) (ev:=(D.l 1 D.u8)) (l:=v54) (k:=8) keyEq_i⟩,rfl,?_⟩;obtain ⟨v60,g61,h⟩:=bind_inv h;refine ⟨_,_,ref18_word_ok g61,.inl rfl,?_⟩;obtain ⟨v62,g63,h⟩:=bind_inv h;refine ⟨rfl,apnd_b (f:=D.u8) (g:=D.u8) g63,_,apnd_z (f:=D.u8) g63,?_⟩;obtain ⟨v64,g65,h⟩:=bind_inv h;refine ⟨_,_,ref18_word_ok g65,.inl rfl,?_⟩;obtain ⟨v66,g67,h⟩:=bind_inv h;refine ⟨rfl,apnd_b (f:=D.u8) (g:=D.u8) g67,_,apnd_z (f:=D.u8) g67,?_⟩;(conv=>whnf);refine .inr ?_;refine ⟨rfl,?_⟩;refine ⟨_,mapSet_ok (ek:=D.i) (ev:=(D.l 1 D.u8)) (l:=v54) (k:=8) (v:=v66) keyEq_i,?_⟩;(conv=>whnf);refine cOB (by kernel_rfl) ?_;refine ⟨_,hwi53,?_⟩;exact hK59 _ _ wk h
         ·rintro ⟨v49,v50⟩ h;refine ⟨a0.Large.length,List.length_map _,?_⟩;revert h;refine cut_join (fun (v68,v69)=>⟨X::AV.ref 1 0::X::X::AV.own 4 (List.map Unknown.toD []).length::AV.mp 24::dd 189 ([]),N::some (OB.box (Attrs.av a0))::N::N::some (OB.row 138 3 (List.map Unknown.toD []) false)::nn 19 (some (OB.amap 3 127 (entsD D.i (D.l 1 D.u8) v68) (.int .i64 32) 131 (List.map D.u8 v69).length)::nn 106 (some (OB.row 5 1 (List.map D.u8 v69) true)::nn 63 ([])))⟩) ?_ ?_
          ·intro k70 h;obtain ⟨_,g71,h⟩:=bind_inv h;revert h;refine loop_for 123 3 Large.toD rfl (fun i72 (v73,v74)=>⟨X::AV.ref 1 0::X::X::AV.own 4 (List.map Unknown.toD []).length::AV.mp 24::dd 117 (AV.d (D.l 3 Large.toD a0.Large)::AV.d (D.i (a0.Large.length:Int))::AV.d (D.i (i72:Int))::dd 69 ([])),N::some (OB.box (Attrs.av a0))::N::N::some (OB.row 138 3 (List.map Unknown.toD []) false)::nn 19 (some (OB.amap 3 127 (entsD D.i (D.l 1 D.u8) v73) (.int .i64 32) 131 (List.map D.u8 v74).length)::nn 106 (some (OB.row 5 1 (List.map D.u8 v74) true)::nn 63 ([])))⟩) ?_ ?_ ?_
           ·exact (.mk rfl (And.intro (.refl _) (And.intro (.refl _) (And.intro (.refl _) (And.intro (.refl _) (And.intro (.refl _) (And.intro (.refl _) True.intro)))))) (And.intro ⟨_,rfl,And.intro ⟨rfl,.refl _⟩ (And.intro ⟨rfl,.refl _⟩ (And.intro ⟨rfl,.refl _⟩ (And.intro ⟨rfl,.refl _⟩ (And.intro ⟨rfl,.refl _⟩ (And.intro ⟨rfl,.refl _⟩ (And.intro ⟨rfl,.refl _⟩ (And.intro ⟨rfl,.refl _⟩ (And.intro ⟨rfl,.refl _⟩ (And.intro ⟨rfl,.refl _⟩ (And.intro ⟨rfl,.refl _⟩ (True.intro)))))))))))⟩ (And.intro (.inl ⟨_,rfl,id⟩) (And.intro (.inr ⟨.inr ⟨_,_,_,rfl⟩,⟨_,mapGet_none keyEq_i g71⟩,rfl,rfl,_,_,_,rfl⟩) (And.intro (.inr ⟨rfl,rfl,by decide⟩) (True.intro))))) rfl)
           ·rintro ⟨v73,v74⟩ K75 h;(conv=>whnf);refine .go ?_;(conv=>whnf);refine sel_f lt_f ?_;exact join_end wk h
           ·rintro next76 i72 x77 ⟨v73,v74⟩ K75 hii72 hxi72 hwi72 h hK78;(conv=>whnf);refine .go ?_;(conv=>whnf);refine sel_t (lt_t hii72) ?_;(conv=>whnf);refine .go ?_;refine ⟨idx_b (f:=Large.toD) hii72,Large.toD x77,hxi72,rfl,?_⟩;(conv=>whnf);refine dOB (by kernel_rfl) ?_;(conv=>whnf);refine .inr ⟨rfl,rfl,⟨_,mapGet_ok (ek:=D.i) (ev:=(D.l 1 D.u8)) (l:=v73) (k:=32) keyEq_i⟩,rfl,?_⟩;obtain ⟨v79,g80,h⟩:=bind_inv h;refine ⟨_,_,ref18_word_ok g80,.inl rfl,?_⟩;obtain ⟨v81,g82,h⟩:=bind_inv h;refine ⟨rfl,apnd_b (f:=D.u8) (g:=D.u8) g82,_,apnd_z (f:=D.u8) g82,?_⟩;obtain ⟨v83,g84,h⟩:=bind_inv h;refine ⟨_,_,ref18_word_ok g84,.inl rfl,?_⟩;obtain ⟨v85,g86,h⟩:=bind_inv h;refine ⟨rfl,apnd_b (f:=D.u8) (g:=D.u8) g86,_,apnd_z (f:=D.u8) g86,?_⟩;obtain ⟨v87,g88,h⟩:=bind_inv h;refine ⟨_,_,ref18_word_ok g88,.inl rfl,?_⟩;obtain ⟨v89,g90,h⟩:=bind_inv h;refine ⟨rfl,apnd_b (f:=D.u8) (g:=D.u8) g90,_,apnd_z (f:=D.u8) g90,?_⟩;(conv=>whnf);refine .inr ?_;refine ⟨rfl,?_⟩;refine ⟨_,mapSet_ok (ek:=D.i) (ev:=(D.l 1 D.u8)) (l:=v73) (k:=32) (v:=v89) keyEq_i,?_⟩;(conv=>whnf);refine cOB (by kernel_rfl) ?_;refine ⟨_,hwi72,?_⟩;exact hK78 _ _ wk h
          ·rintro ⟨v68,v69⟩ h;revert h;refine cut_join (fun v91=>⟨X::AV.ref 1 0::X::X::AV.own 4 (List.map Unknown.toD []).length::AV.mp 24::dd 189 ([]),N::some (OB.box (Attrs.av a0))::N::N::some (OB.row 138 3 (List.map Unknown.toD []) false)::nn 19 (some (OB.map 3 127 (entsD D.i (D.l 1 D.u8) v91))::nn 170 ([]))⟩) ?_ ?_
           ·intro k92 h;revert h;refine sel_if ?_ ?_<;>intro h
            ·obtain ⟨v93,g94,h⟩:=bind_inv h;refine ⟨_,_,some [],ref18_word_ok g94,?_⟩;refine ⟨_,mapSet_ok (ek:=D.i) (ev:=(D.l 1 D.u8)) (l:=v68) (k:=35) (v:=v93) keyEq_i,?_⟩;exact join_end wk h
            ·exact join_end wk h
           ·rintro v91 h;revert h;refine cut_join (fun v95=>⟨dd 4 (AV.own 4 (List.map Unknown.toD v95).length::dd 190 ([])),nn 4 (some (OB.row 138 3 (List.map Unknown.toD v95) false)::nn 190 ([]))⟩) ?_ ?_
            ·intro k96 h;revert h;refine loop_while (fun (v97,v98)=>⟨X::AV.ref 1 0::X::X::AV.own 4 (List.map Unknown.toD v98).length::AV.mp 24::dd 146 (AV.d (D.i v97)::dd 42 ([])),N::some (OB.box (Attrs.av a0))::N::N::some (OB.row 138 3 (List.map Unknown.toD v98) false)::nn 19 (some (OB.map 3 127 (entsD D.i (D.l 1 D.u8) v91))::nn 170 ([]))⟩) ?_ ?_
             ·exact wk
             rintro next99 ⟨v97,v98⟩ K100 h hK101;(conv=>whnf);refine .go ?_;revert h;refine sel_if ?_ ?_<;>intro h
             ·revert h;refine cut_join (fun v102=>⟨X::AV.ref 1 0::X::X::AV.own 4 (List.map Unknown.toD v102).length::AV.mp 24::dd 146 (AV.d (D.i v97)::dd 42 ([])),N::some (OB.box (Attrs.av a0))::N::N::some (OB.row 138 3 (List.map Unknown.toD v102) false)::nn 19 (some (OB.map 3 127 (entsD D.i (D.l 1 D.u8) v91))::nn 170 ([]))⟩) ?_ ?_
              ·intro k103 h;obtain ⟨v104,g105,h⟩:=bind_inv h;obtain ⟨v106,g107,h⟩:=bind_inv h;refine ⟨_,mapGet_ok (ek:=D.i) (ev:=(D.l 1 D.u8)) (l:=v91) (k:=v97) keyEq_i,(D.l 1 D.u8) v104,mget_dg (z:=[]) rfl g105,v106,mget_sg g107,?_⟩;revert h;refine cut_join (fun v108=>⟨X::AV.ref 1 0::X::X::AV.own 4 (List.map Unknown.toD v108).length::AV.mp 24::dd 10 (AV.d (D.i v97)::dd 135 (AV.d (D.i v97)::dd 42 ([]))),N::some (OB.box (Attrs.av a0))::N::N::some (OB.row 138 3 (List.map Unknown.toD v108) false)::nn 19 (some (OB.map 3 127 (entsD D.i (D.l 1 D.u8) v91))::nn 170 ([]))⟩) ?_ ?_
               ·intro k109 h;revert h;refine sel_if ?_ ?_<;>intro h
                ·obtain ⟨v110,g111,h⟩:=bind_inv h;refine ⟨_,_,some [],ref18_flags_ok g111,?_⟩;obtain ⟨_,g112,h⟩:=bind_inv h;refine ⟨apnd_b0 (g:=D.u8) g112,?_⟩;(conv=>whnf);refine .inl ?_;refine ⟨rfl,?_⟩;refine ⟨rfl,?_⟩;obtain ⟨v113,g114,h⟩:=bind_inv h;refine ⟨rfl,apnd_b (f:=Unknown.toD) (g:=Unknown.toD) g114,_,apnd_z (f:=Unknown.toD) g114,?_⟩;exact join_end wk h
                ·exact join_end wk h
               ·rintro v108 h;refine ⟨a0.Other.length,List.length_map _,?_⟩;revert h;refine cut_join (fun v115=>⟨X::AV.ref 1 0::X::X::AV.own 4 (List.map Unknown.toD v115).length::AV.mp 24::dd 146 (AV.d (D.i v97)::dd 42 ([])),N::some (OB.box (Attrs.av a0))::N::N::some (OB.row 138 3 (List.map Unknown.toD v115) false)::nn 19 (some (OB.map 3 127 (entsD D.i (D.l 1 D.u8) v91))::nn 170 ([]))⟩) ?_ ?_
                ·intro k116 h;revert h;refine loop_for 172 3 Unknown.toD rfl (fun i117 v118=>⟨X::AV.ref 1 0::X::X::AV.own 4 (List.map Unknown.toD v118).length::AV.mp 24::dd 10 (AV.d (D.i v97)::dd 135 (AV.d (D.i v97)::dd 19 (AV.d (D.l 3 Unknown.toD a0.Other)::AV.d (D.i (a0.Other.length:Int))::AV.d (D.i (i117:Int))::dd 20 ([])))),N::some (OB.box (Attrs.av a0))::N::N::some (OB.row 138 3 (List.map Unknown.toD v118) false)::nn 19 (some (OB.map 3 127 (entsD D.i (D.l 1 D.u8) v91))::nn 170 ([]))⟩) ?_ ?_ ?_
                 ·exact wk
                 ·rintro v118 K119 h;(conv=>whnf);refine .go ?_;(conv=>whnf);refine sel_f lt_f ?_;exact join_end wk h
                 ·rintro next120 i117 x121 v118 K119 hii117 hxi117 hwi117 h hK122;(conv=>whnf);refine .go ?_;(conv=>whnf);refine sel_t (lt_t hii117) ?_;(conv=>whnf);refine .go ?_;refine ⟨idx_b (f:=Unknown.toD) hii117,Unknown.toD x121,hxi117,rfl,?_⟩;revert h;refine cut_join (fun v123=>⟨X::AV.ref 1 0::X::X::AV.own 4 (List.map Unknown.toD v123).length::AV.mp 24::dd 10 (AV.d (D.i v97)::dd 135 (AV.d (D.i v97)::dd 19 (AV.d (D.l 3 Unknown.toD a0.Other)::AV.d (D.i (a0.Other.length:Int))::AV.d (D.i (i117:Int))::dd 20 ([])))),N::some (OB.box (Attrs.av a0))::N::N::some (OB.row 138 3 (List.map Unknown.toD v123) false)::nn 19 (some (OB.map 3 127 (entsD D.i (D.l 1 D.u8) v91))::nn 170 ([]))⟩) ?_ ?_
                  ·intro k124 h;revert h;refine sel_if ?_ ?_<;>intro h
                   ·(conv=>whnf);refine dOB (by kernel_rfl) ?_;obtain ⟨_,g125,h⟩:=bind_inv h;refine ⟨apnd_b0 (g:=D.u8) g125,?_⟩;(conv=>whnf);refine .inl ?_;refine ⟨rfl,?_⟩;refine ⟨rfl,?_⟩;obtain ⟨v126,g127,h⟩:=bind_inv h;refine ⟨rfl,apnd_b (f:=Unknown.toD) (g:=Unknown.toD) g127,_,apnd_z (f:=Unknown.toD) g127,?_⟩;(conv=>whnf);refine cOB (by kernel_rfl) ?_;exact join_end wk h
                   ·exact join_end wk h
                  ·rintro v123 h;refine ⟨_,hwi117,?_⟩;exact hK122 _ _ wk h
                ·rintro v115 h;exact join_end wk h
              ·rintro v102 h;refine ⟨_,rfl,?_⟩;exact hK101 _ _ wk h
             ·exact join_end wk h
            ·rintro v95 h;(conv=>whnf);refine .inl ?_;refine ⟨rfl,?_⟩;cases h;exact ⟨rfl,rfl⟩
theorem ref19_codes_ok {a0:List Prefix} {a1:Bool} {r:(List UInt8)} (h:ref19_codes a0 a1=some r):CallsOK Tryz.prog 131 [AV.d (D.l 4 Prefix.toD a0),AV.d (D.b a1)] [] (.d (D.l 1 D.u8 r)) []:=by
 refine ok Tryz.f131 (by kernel_rfl) (by kernel_rfl) ⟨rfl,?_⟩;unfold ref19_codes at h;refine ⟨a0.length,List.length_map _,?_⟩;revert h;refine cut_join (fun v1=>⟨dd 5 (AV.own 5 (List.map D.u8 v1).length::dd 30 ([])),nn 5 (some (OB.row 5 1 (List.map D.u8 v1) false)::nn 30 ([]))⟩) ?_ ?_
 ·intro k2 h;revert h;refine loop_for 8 4 Prefix.toD rfl (fun i3 v4=>⟨X::AV.d (D.b a1)::X::X::X::AV.own 5 (List.map D.u8 v4).length::X::X::AV.d (D.l 4 Prefix.toD a0)::AV.d (D.i (a0.length:Int))::AV.d (D.i (i3:Int))::dd 25 ([]),nn 5 (some (OB.row 5 1 (List.map D.u8 v4) false)::nn 30 ([]))⟩) ?_ ?_ ?_
  ·exact wk
  ·rintro v4 K5 h;(conv=>whnf);refine .go ?_;(conv=>whnf);refine sel_f lt_f ?_;exact join_end wk h
  ·rintro next6 i3 x7 v4 K5 hii3 hxi3 hwi3 h hK8;(conv=>whnf);refine .go ?_;(conv=>whnf);refine sel_t (lt_t hii3) ?_;(conv=>whnf);refine .go ?_;refine ⟨idx_b (f:=Prefix.toD) hii3,Prefix.toD x7,hxi3,rfl,?_⟩;revert h;refine cut_join (fun v9=>⟨X::AV.d (D.b a1)::X::X::X::AV.own 5 (List.map D.u8 v9).length::X::X::AV.d (D.l 4 Prefix.toD a0)::AV.d (D.i (a0.length:Int))::AV.d (D.i (i3:Int))::dd 25 ([]),nn 5 (some (OB.row 5 1 (List.map D.u8 v9) false)::nn 30 ([]))⟩) ?_ ?_
   ·intro k10 h;revert h;refine sel_if ?_ ?_<;>intro h
    ·(conv=>whnf);refine dOB (by kernel_rfl) ?_;refine ⟨_,u8_wrap _,?_⟩;refine ⟨rfl,?_⟩;obtain ⟨v11,g12,h⟩:=bind_inv h;refine ⟨rfl,apnd_b (f:=D.u8) (g:=D.u8) g12,_,apnd_z (f:=D.u8) g12,?_⟩;obtain ⟨v13,g14,h⟩:=bind_inv h;refine ⟨_,_,ref01_Bytes_ok g14,.inr rfl,?_⟩;refine ⟨_,rfl,?_⟩;refine ⟨by decide,_,rfl,?_⟩;(conv=>whnf);refine .inr (.inl ?_);obtain ⟨_,g15,h⟩:=bind_inv h;refine ⟨view_b (f:=D.u8) g15,rfl,(Int.toNat 0),(Int.toNat (i64w (Int.tdiv (i64w (x7.Len + 7)) 8)) - Int.toNat 0),rfl,rfl,?_⟩;refine ⟨(by first | rfl | (simp only [List.length_map,List.length_set];omega)),List.map D.u8 (List.take (Int.toNat (i64w (Int.tdiv (i64w (x7.Len + 7)) 8)) - Int.toNat 0) (List.drop (Int.toNat 0) v13)),view_z,?_⟩;obtain ⟨v16,g17,h⟩:=bind_inv h;refine ⟨rfl,apnd_b (f:=D.u8) (g:=D.u8) g17,_,apnd_z (f:=D.u8) g17,?_⟩;(conv=>whnf);refine cOB (by kernel_rfl) ?_;exact join_end wk h
    ·exact join_end wk h
   ·rintro v9 h;refine ⟨_,hwi3,?_⟩;exact hK8 _ _ wk h
 ·rintro v1 h;(conv=>whnf);refine .inl ?_;refine ⟨rfl,?_⟩;cases h;exact ⟨rfl,rfl⟩
theorem ref19_put_ok {a0:List Unknown} {a1:Unknown} {r:(List Unknown)} (h:ref19_put a0 a1=some r):CallsOK Tryz.prog 132 [AV.d (D.l 3 Unknown.toD a0),AV.d (Unknown.toD a1)] [] (.d (D.l 3 Unknown.toD r)) []:=by
 refine ok Tryz.f132 (by kernel_rfl) (by kernel_rfl) ⟨rfl,?_⟩;unfold ref19_put at h;revert h;refine cut_join (fun v1=>⟨AV.d (D.l 3 Unknown.toD a0)::X::X::AV.ref 3 0::X::AV.d (D.i v1)::dd 27 ([]),N::N::N::some (OB.box (Unknown.av a1))::nn 29 ([])⟩) ?_ ?_
 ·intro k2 h;revert h;refine loop_while (fun v3=>⟨AV.d (D.l 3 Unknown.toD a0)::X::X::AV.ref 3 0::X::AV.d (D.i v3)::dd 27 ([]),N::N::N::some (OB.box (Unknown.av a1))::nn 29 ([])⟩) ?_ ?_
  ·exact wk
  rintro next4 v3 K5 h hK6;revert h;refine cut_join (fun v7=>⟨AV.d (D.l 3 Unknown.toD a0)::X::X::AV.ref 3 0::X::AV.d (D.i v3)::dd 13 (AV.d (D.b v7)::dd 13 ([])),N::N::N::some (OB.box (Unknown.av a1))::nn 29 ([])⟩) ?_ ?_
  ·intro k8 h;(conv=>whnf);refine dOB (by kernel_rfl) ?_;refine ⟨a0.length,List.length_map _,?_⟩;revert h;refine sel_if ?_ ?_<;>intro h
   ·obtain ⟨v9,g10,h⟩:=bind_inv h;refine ⟨geti_b (f:=Unknown.toD) g10,Unknown.toD v9,geti_d (f:=Unknown.toD) g10,rfl,?_⟩;(conv=>whnf);refine cOB (by kernel_rfl) ?_;exact join_end wk h
   ·(conv=>whnf);refine cOB (by kernel_rfl) ?_;exact join_end wk h
  ·rintro v7 h;(conv=>whnf);refine .go ?_;revert h;refine sel_if ?_ ?_<;>intro h
   ·(conv=>whnf);refine .go ?_;refine ⟨_,rfl,?_⟩;exact hK6 _ _ wk h
   ·exact join_end wk h
 ·rintro v1 h;(conv=>whnf);refine dOB (by kernel_rfl) ?_;obtain ⟨v11,g12,h⟩:=bind_inv h;refine ⟨part_b (f:=Unknown.toD) g12,_,part_z (f:=Unknown.toD) g12,?_⟩;obtain ⟨_,g13,h⟩:=bind_inv h;refine ⟨apnd_b0 (g:=Unknown.toD) g13,?_⟩;refine ⟨rfl,?_⟩;obtain ⟨v14,g15,h⟩:=bind_inv h;refine ⟨rfl,apnd_b (f:=Unknown.toD) (g:=Unknown.toD) g15,_,apnd_z (f:=Unknown.toD) g15,?_⟩;obtain ⟨v16,g17,h⟩:=bind_inv h;refine ⟨part_b0 (f:=Unknown.toD) g17,_,part_z0 (f:=Unknown.toD) g17,?_⟩;obtain ⟨v18,g19,h⟩:=bind_inv h;refine ⟨rfl,apnd_b (f:=Unknown.toD) (g:=Unknown.toD) g19,_,apnd_z (f:=Unknown.toD) g19,?_⟩;(conv=>whnf);refine cOB (by kernel_rfl) ?_;(conv=>whnf);refine .inl ?_;refine ⟨rfl,?_⟩;cases h;exact ⟨rfl,rfl⟩
end Go.AX.Q35
end
section
namespace Go.AX.Q35
open Go Go.AX Go.Proofs
set_option maxRecDepth 100000
set_option maxHeartbeats 4000000
set_option linter.unusedVariables false
theorem ref18_Join_ok {a0:List Unknown} {r:(List UInt8)×Int} (h:ref18_Join a0=some r):CallsOK Tryz.prog 133 [AV.d (D.l 3 Unknown.toD a0)] [] (.tup [.d (D.l 1 D.u8 r.1),.d (D.i r.2)]) []:=by
 refine ok Tryz.f133 (by kernel_rfl) (by kernel_rfl) ⟨rfl,?_⟩;unfold ref18_Join at h;refine ⟨a0.length,List.length_map _,?_⟩;revert h;refine cut_join (fun _=>⟨AV.d (D.l 3 Unknown.toD a0)::dd 88 ([]),nn 89 ([])⟩) ?_ ?_
 ·intro k1 h;revert h;refine loop_for 10 3 Unknown.toD rfl (fun i2 _=>⟨AV.d (D.l 3 Unknown.toD a0)::dd 9 (AV.d (D.l 3 Unknown.toD a0)::AV.d (D.i (a0.length:Int))::AV.d (D.i (i2:Int))::dd 76 ([])),nn 89 ([])⟩) ?_ ?_ ?_
  ·exact wk
  ·rintro _ K3 h;(conv=>whnf);refine .go ?_;(conv=>whnf);refine sel_f lt_f ?_;exact join_end wk h
  ·rintro next4 i2 x5 _ K3 hii2 hxi2 hwi2 h hK6;(conv=>whnf);refine .go ?_;(conv=>whnf);refine sel_t (lt_t hii2) ?_;(conv=>whnf);refine .go ?_;refine ⟨idx_b (f:=Unknown.toD) hii2,Unknown.toD x5,hxi2,rfl,?_⟩;revert h;refine cut_join (fun v7=>⟨AV.d (D.l 3 Unknown.toD a0)::dd 9 (AV.d (D.l 3 Unknown.toD a0)::AV.d (D.i (a0.length:Int))::AV.d (D.i (i2:Int))::dd 26 (AV.d (D.b v7)::dd 49 ([]))),nn 89 ([])⟩) ?_ ?_
   ·intro k8 h;revert h;refine sel_if ?_ ?_<;>intro h
    ·exact join_end wk h
    ·revert h;refine sel_if ?_ ?_<;>intro h
     ·exact join_end wk h
     ·revert h;refine sel_if ?_ ?_<;>intro h
      ·exact join_end wk h
      ·revert h;refine sel_if ?_ ?_<;>intro h
       ·exact join_end wk h
       ·refine ⟨x5.Data.length,List.length_map _,?_⟩;exact join_end wk h
   ·rintro v7 h;(conv=>whnf);refine .go ?_;revert h;refine sel_if ?_ ?_<;>intro h
    ·(conv=>whnf);refine .inl ?_;refine ⟨rfl,?_⟩;cases h;exact ⟨rfl,rfl⟩
    ·refine ⟨_,hwi2,?_⟩;exact hK6 _ _ wk h
 ·rintro _ h;refine ⟨a0.length,List.length_map _,?_⟩;revert h;refine cut_join (fun v9=>⟨dd 6 (AV.own 6 (List.map D.u8 v9).length::dd 82 ([])),nn 6 (some (OB.row 5 1 (List.map D.u8 v9) false)::nn 82 ([]))⟩) ?_ ?_
  ·intro k10 h;revert h;refine loop_for 41 3 Unknown.toD rfl (fun i11 v12=>⟨dd 6 (AV.own 6 (List.map D.u8 v12).length::dd 34 (AV.d (D.l 3 Unknown.toD a0)::AV.d (D.i (a0.length:Int))::AV.d (D.i (i11:Int))::dd 45 ([]))),nn 6 (some (OB.row 5 1 (List.map D.u8 v12) false)::nn 82 ([]))⟩) ?_ ?_ ?_
   ·exact wk
   ·rintro v12 K13 h;(conv=>whnf);refine .go ?_;(conv=>whnf);refine sel_f lt_f ?_;exact join_end wk h
   ·rintro next14 i11 x15 v12 K13 hii11 hxi11 hwi11 h hK16;(conv=>whnf);refine .go ?_;(conv=>whnf);refine sel_t (lt_t hii11) ?_;(conv=>whnf);refine .go ?_;refine ⟨idx_b (f:=Unknown.toD) hii11,Unknown.toD x15,hxi11,rfl,?_⟩;refine ⟨x15.Data.length,List.length_map _,?_⟩;revert h;refine cut_join (fun v17=>⟨dd 6 (AV.own 6 (List.map D.u8 v17).length::X::AV.ref 8 0::dd 32 (AV.d (D.l 3 Unknown.toD a0)::AV.d (D.i (a0.length:Int))::AV.d (D.i (i11:Int))::dd 45 ([]))),nn 6 (some (OB.row 5 1 (List.map D.u8 v17) false)::N::some (OB.box (Unknown.av x15))::nn 80 ([]))⟩) ?_ ?_
    ·intro k18 h;revert h;refine sel_if ?_ ?_<;>intro h
     ·refine ⟨_,u8_wrap _,?_⟩;refine ⟨_,u8_wrap _,?_⟩;refine ⟨_,u8_wrap _,?_⟩;refine ⟨_,u8_wrap _,?_⟩;refine ⟨by decide,_,rfl,?_⟩;refine ⟨_,u8_wrap _,?_⟩;refine ⟨_,u8_wrap _,?_⟩;refine ⟨rfl,?_⟩;obtain ⟨v19,g20,h⟩:=bind_inv h;refine ⟨rfl,apnd_b (f:=D.u8) (g:=D.u8) g20,_,apnd_z (f:=D.u8) g20,?_⟩;exact join_end wk h
     ·refine ⟨_,u8_wrap _,?_⟩;refine ⟨_,u8_wrap _,?_⟩;refine ⟨_,u8_wrap _,?_⟩;refine ⟨_,u8_wrap _,?_⟩;refine ⟨rfl,?_⟩;obtain ⟨v21,g22,h⟩:=bind_inv h;refine ⟨rfl,apnd_b (f:=D.u8) (g:=D.u8) g22,_,apnd_z (f:=D.u8) g22,?_⟩;exact join_end wk h
    ·rintro v17 h;obtain ⟨v23,g24,h⟩:=bind_inv h;refine ⟨rfl,apnd_b (f:=D.u8) (g:=D.u8) g24,_,apnd_z (f:=D.u8) g24,?_⟩;refine ⟨_,hwi11,?_⟩;exact hK16 _ _ wk h
  ·rintro v9 h;refine ⟨v9.length,by first | exact List.length_map _ | rfl | (simp only [List.length_map];omega),?_⟩;(conv=>whnf);refine .go ?_;revert h;refine sel_if ?_ ?_<;>intro h
   ·(conv=>whnf);refine .inl ?_;refine ⟨rfl,?_⟩;cases h;exact ⟨rfl,rfl⟩
   ·(conv=>whnf);refine .inl ?_;refine ⟨rfl,?_⟩;cases h;exact ⟨rfl,rfl⟩
theorem ref19_parts_ok {a0:Update} {r:(List UInt8)×Int} (h:ref19_parts a0=some r):CallsOK Tryz.prog 111 [AV.d (Update.toD a0)] [] (.tup [.d (D.l 1 D.u8 r.1),.d (D.i r.2)]) []:=by
 refine ok Tryz.f111 (by kernel_rfl) (by kernel_rfl) ⟨rfl,?_⟩;unfold ref19_parts at h;refine ⟨a0.Announce.length,List.length_map _,?_⟩;revert h;refine cut_join (fun v1=>⟨X::AV.ref 1 0::X::X::AV.d (D.l 3 Unknown.toD v1)::dd 91 ([]),N::some (OB.box (Update.av a0))::nn 94 ([])⟩) ?_ ?_
 ·intro k2 h;revert h;refine sel_if ?_ ?_<;>intro h
  ·obtain ⟨⟨v3,v4⟩,g5,h⟩:=bind_inv h;refine ⟨_,_,some [],ref18_Write_ok g5,?_⟩;(conv=>whnf);refine .go ?_;revert h;refine sel_if ?_ ?_<;>intro h
   ·cases h;exact ⟨rfl,rfl⟩
   ·exact join_end wk h
  ·exact join_end wk h
 ·rintro v1 h;obtain ⟨v6,g7,h⟩:=bind_inv h;refine ⟨_,_,some [],ref19_codes_ok g7,?_⟩;refine ⟨v6.length,List.length_map _,?_⟩;revert h;refine cut_join (fun v8=>⟨X::AV.ref 1 0::X::X::AV.d (D.l 3 Unknown.toD v8)::dd 91 ([]),N::some (OB.box (Update.av a0))::nn 94 ([])⟩) ?_ ?_
  ·intro k9 h;revert h;refine sel_if ?_ ?_<;>intro h
   ·obtain ⟨v10,g11,h⟩:=bind_inv h;refine ⟨_,_,some [38],ref01_Bytes_ok g11,?_⟩;refine ⟨rfl,?_⟩;obtain ⟨v12,g13,h⟩:=bind_inv h;refine ⟨rfl,apnd_b (f:=D.u8) (g:=D.u8) g13,_,apnd_z (f:=D.u8) g13,?_⟩;refine ⟨rfl,?_⟩;obtain ⟨v14,g15,h⟩:=bind_inv h;refine ⟨rfl,apnd_b (f:=D.u8) (g:=D.u8) g15,_,apnd_z (f:=D.u8) g15,?_⟩;obtain ⟨v16,g17,h⟩:=bind_inv h;refine ⟨rfl,apnd_b (f:=D.u8) (g:=D.u8) g17,_,apnd_z (f:=D.u8) g17,?_⟩;refine ⟨rfl,?_⟩;obtain ⟨v18,g19,h⟩:=bind_inv h;refine ⟨_,_,some [],ref19_put_ok g19,?_⟩;exact join_end wk h
   ·exact join_end wk h
  ·rintro v8 h;obtain ⟨v20,g21,h⟩:=bind_inv h;refine ⟨_,_,some [],ref19_codes_ok g21,?_⟩;refine ⟨v20.length,List.length_map _,?_⟩;revert h;refine cut_join (fun v22=>⟨X::AV.ref 1 0::X::X::AV.d (D.l 3 Unknown.toD v22)::dd 91 ([]),N::some (OB.box (Update.av a0))::nn 94 ([])⟩) ?_ ?_
   ·intro k23 h;revert h;refine sel_if ?_ ?_<;>intro h
    ·obtain ⟨v24,g25,h⟩:=bind_inv h;refine ⟨rfl,apnd_b (f:=D.u8) (g:=D.u8) g25,_,apnd_z (f:=D.u8) g25,?_⟩;refine ⟨rfl,?_⟩;obtain ⟨v26,g27,h⟩:=bind_inv h;refine ⟨_,_,some [],ref19_put_ok g27,?_⟩;exact join_end wk h
    ·exact join_end wk h
   ·rintro v22 h;obtain ⟨⟨v28,v29⟩,g30,h⟩:=bind_inv h;refine ⟨_,_,some [],ref18_Join_ok g30,?_⟩;(conv=>whnf);refine .go ?_;revert h;refine sel_if ?_ ?_<;>intro h
    ·(conv=>whnf);refine .inl ?_;refine ⟨rfl,?_⟩;cases h;exact ⟨rfl,rfl⟩
    ·obtain ⟨v31,g32,h⟩:=bind_inv h;refine ⟨_,_,some [],ref19_codes_ok g32,?_⟩;refine ⟨v31.length,List.length_map _,?_⟩;refine ⟨by decide,_,rfl,?_⟩;refine ⟨_,u8_wrap _,?_⟩;refine ⟨v31.length,List.length_map _,?_⟩;refine ⟨_,u8_wrap _,?_⟩;obtain ⟨v33,g34,h⟩:=bind_inv h;refine ⟨rfl,apnd_b (f:=D.u8) (g:=D.u8) g34,_,apnd_z (f:=D.u8) g34,?_⟩;refine ⟨v28.length,List.length_map _,?_⟩;refine ⟨by decide,_,rfl,?_⟩;refine ⟨_,u8_wrap _,?_⟩;refine ⟨v28.length,List.length_map _,?_⟩;refine ⟨_,u8_wrap _,?_⟩;refine ⟨rfl,?_⟩;obtain ⟨v35,g36,h⟩:=bind_inv h;refine ⟨rfl,apnd_b (f:=D.u8) (g:=D.u8) g36,_,apnd_z (f:=D.u8) g36,?_⟩;obtain ⟨v37,g38,h⟩:=bind_inv h;refine ⟨rfl,apnd_b (f:=D.u8) (g:=D.u8) g38,_,apnd_z (f:=D.u8) g38,?_⟩;obtain ⟨v39,g40,h⟩:=bind_inv h;refine ⟨_,_,some [],ref19_codes_ok g40,?_⟩;obtain ⟨v41,g42,h⟩:=bind_inv h;refine ⟨rfl,apnd_b (f:=D.u8) (g:=D.u8) g42,_,apnd_z (f:=D.u8) g42,?_⟩;(conv=>whnf);refine .inl ?_;refine ⟨rfl,?_⟩;cases h;exact ⟨rfl,rfl⟩
theorem ref19_Valid_ok {a0:Update} {r:Bool} (h:ref19_Valid a0=some r):CallsOK Tryz.prog 87 [AV.d (Update.toD a0)] [] (.d (D.b r)) []:=by
 refine ok Tryz.f87 (by kernel_rfl) (by kernel_rfl) ⟨rfl,?_⟩;unfold ref19_Valid at h;revert h;refine cut_join (fun v1=>⟨X::AV.ref 1 0::dd 16 (AV.d (D.b v1)::dd 73 ([])),N::some (OB.box (Update.av a0))::nn 90 ([])⟩) ?_ ?_
 ·intro k2 h;refine ⟨a0.Withdraw.length,List.length_map _,?_⟩;revert h;refine sel_if ?_ ?_<;>intro h
  ·exact join_end wk h
  ·refine ⟨a0.Announce.length,List.length_map _,?_⟩;exact join_end wk h
 ·rintro v1 h;(conv=>whnf);refine .go ?_;revert h;refine sel_if ?_ ?_<;>intro h
  ·cases h;exact ⟨rfl,rfl⟩
  ·(conv=>whnf);refine dOB (by kernel_rfl) ?_;obtain ⟨_,g3,h⟩:=bind_inv h;refine ⟨apnd_b0 (g:=Prefix.toD) g3,?_⟩;obtain ⟨v4,g5,h⟩:=bind_inv h;refine ⟨rfl,apnd_b (f:=Prefix.toD) (g:=Prefix.toD) g5,_,apnd_z (f:=Prefix.toD) g5,?_⟩;refine ⟨v4.length,by first | exact List.length_map _ | rfl | (simp only [List.length_map];omega),?_⟩;(conv=>whnf);refine cOB (by kernel_rfl) ?_;revert h;refine cut_join (fun _=>⟨X::AV.ref 1 0::dd 90 ([]),N::some (OB.box (Update.av a0))::nn 90 ([])⟩) ?_ ?_
   ·intro k6 h;revert h;refine loop_own 21 50 4 false Prefix.toD rfl (fun i7 _=>⟨X::AV.ref 1 0::dd 22 (AV.own 21 (List.map Prefix.toD v4).length::AV.d (D.i (v4.length:Int))::AV.d (D.i (i7:Int))::dd 65 ([])),N::some (OB.box (Update.av a0))::nn 19 (some (OB.row 50 4 (List.map Prefix.toD v4) false)::nn 70 ([]))⟩) ?_ ?_ ?_
    ·exact wk
    ·rintro _ K8 h;(conv=>whnf);refine .go ?_;(conv=>whnf);refine sel_f lt_f ?_;exact join_end wk h
    ·rintro next9 i7 x10 _ K8 hii7 hxi7 hwi7 h hK11;(conv=>whnf);refine .go ?_;(conv=>whnf);refine sel_t (lt_t hii7) ?_;(conv=>whnf);refine .go ?_;refine ⟨rfl,idx_b (f:=Prefix.toD) hii7,?_⟩;refine ⟨rfl,Prefix.toD x10,hxi7,?_⟩;obtain ⟨v12,g13,h⟩:=bind_inv h;refine ⟨_,_,some [],ref02_Valid_ok g13,?_⟩;(conv=>whnf);refine .go ?_;revert h;refine sel_if ?_ ?_<;>intro h
     ·cases h;exact ⟨rfl,rfl⟩
     ·refine ⟨_,hwi7,?_⟩;exact hK11 _ _ wk h
   ·rintro _ h;revert h;refine cut_join (fun v14=>⟨X::AV.ref 1 0::dd 42 (AV.d (D.b v14)::dd 47 ([])),N::some (OB.box (Update.av a0))::nn 90 ([])⟩) ?_ ?_
    ·intro k15 h;(conv=>whnf);refine dOB (by kernel_rfl) ?_;refine ⟨a0.Announce.length,List.length_map _,?_⟩;revert h;refine sel_if ?_ ?_<;>intro h
     ·obtain ⟨v16,g17,h⟩:=bind_inv h;refine ⟨_,_,ref18_Empty_ok g17,.inl rfl,?_⟩;obtain ⟨v18,g19,h⟩:=bind_inv h;refine ⟨_,_,ref18_Same_ok g19,.inl rfl,?_⟩;(conv=>whnf);refine cOB (by kernel_rfl) ?_;exact join_end wk h
     ·(conv=>whnf);refine cOB (by kernel_rfl) ?_;exact join_end wk h
    ·rintro v14 h;(conv=>whnf);refine .go ?_;revert h;refine sel_if ?_ ?_<;>intro h
     ·cases h;exact ⟨rfl,rfl⟩
     ·refine ⟨a0.Announce.length,List.length_map _,?_⟩;revert h;refine cut_join (fun _=>⟨X::AV.ref 1 0::dd 90 ([]),N::some (OB.box (Update.av a0))::nn 90 ([])⟩) ?_ ?_
      ·intro k20 h;revert h;refine loop_for 46 4 Prefix.toD rfl (fun i21 _=>⟨X::AV.ref 1 0::dd 44 (AV.d (D.l 4 Prefix.toD a0.Announce)::AV.d (D.i (a0.Announce.length:Int))::AV.d (D.i (i21:Int))::dd 43 ([])),N::some (OB.box (Update.av a0))::nn 90 ([])⟩) ?_ ?_ ?_
       ·exact wk
       ·rintro _ K22 h;(conv=>whnf);refine .go ?_;(conv=>whnf);refine sel_f lt_f ?_;exact join_end wk h
       ·rintro next23 i21 x24 _ K22 hii21 hxi21 hwi21 h hK25;(conv=>whnf);refine .go ?_;(conv=>whnf);refine sel_t (lt_t hii21) ?_;(conv=>whnf);refine .go ?_;refine ⟨idx_b (f:=Prefix.toD) hii21,Prefix.toD x24,hxi21,rfl,?_⟩;revert h;refine cut_join (fun v26=>⟨X::AV.ref 1 0::dd 44 (AV.d (D.l 4 Prefix.toD a0.Announce)::AV.d (D.i (a0.Announce.length:Int))::AV.d (D.i (i21:Int))::dd 29 (AV.d (D.b v26)::dd 13 ([]))),N::some (OB.box (Update.av a0))::nn 90 ([])⟩) ?_ ?_
        ·intro k27 h;revert h;refine sel_if ?_ ?_<;>intro h
         ·exact join_end wk h
         ·revert h;refine sel_if ?_ ?_<;>intro h
          ·exact join_end wk h
          ·revert h;refine sel_if ?_ ?_<;>intro h
           ·exact join_end wk h
           ·obtain ⟨v28,g29,h⟩:=bind_inv h;refine ⟨_,_,some [],ref18_Valid_ok g29,?_⟩;exact join_end wk h
        ·rintro v26 h;(conv=>whnf);refine .go ?_;revert h;refine sel_if ?_ ?_<;>intro h
         ·cases h;exact ⟨rfl,rfl⟩
         ·refine ⟨_,hwi21,?_⟩;exact hK25 _ _ wk h
      ·rintro _ h;obtain ⟨⟨v30,v31⟩,g32,h⟩:=bind_inv h;refine ⟨_,_,some [],ref19_parts_ok g32,?_⟩;revert h;refine cut_join (fun v33=>⟨X::X::AV.d (D.b v33)::dd 89 ([]),nn 92 ([])⟩) ?_ ?_
       ·intro k34 h;revert h;refine sel_if ?_ ?_<;>intro h
        ·refine ⟨v30.length,List.length_map _,?_⟩;exact join_end wk h
        ·exact join_end wk h
       ·rintro v33 h;cases h;exact ⟨rfl,rfl⟩
theorem ref25_without_ok {a0:List Held} {a1:Prefix} {r:(List Held)} (h:ref25_without a0 a1=some r):CallsOK Tryz.prog 88 [AV.d (D.l 18 Held.toD a0),AV.d (Prefix.toD a1)] [] (AV.own 0 (List.map Held.toD r).length) [.row 101 18 (List.map Held.toD r) false]:=by
 refine ok Tryz.f88 (by kernel_rfl) (by kernel_rfl) ⟨rfl,?_⟩;unfold ref25_without at h;refine ⟨a0.length,List.length_map _,?_⟩;revert h;refine cut_join (fun v1=>⟨dd 5 (AV.own 5 (List.map Held.toD v1).length::dd 19 ([])),nn 5 (some (OB.row 101 18 (List.map Held.toD v1) false)::nn 19 ([]))⟩) ?_ ?_
 ·intro k2 h;revert h;refine loop_for 8 18 Held.toD rfl (fun i3 v4=>⟨X::X::X::AV.ref 3 0::X::AV.own 5 (List.map Held.toD v4).length::X::X::AV.d (D.l 18 Held.toD a0)::AV.d (D.i (a0.length:Int))::AV.d (D.i (i3:Int))::dd 14 ([]),N::N::N::some (OB.box (Prefix.av a1))::N::some (OB.row 101 18 (List.map Held.toD v4) false)::nn 19 ([])⟩) ?_ ?_ ?_
  ·exact wk
  ·rintro v4 K5 h;(conv=>whnf);refine .go ?_;(conv=>whnf);refine sel_f lt_f ?_;exact join_end wk h
  ·rintro next6 i3 x7 v4 K5 hii3 hxi3 hwi3 h hK8;(conv=>whnf);refine .go ?_;(conv=>whnf);refine sel_t (lt_t hii3) ?_;(conv=>whnf);refine .go ?_;refine ⟨idx_b (f:=Held.toD) hii3,Held.toD x7,hxi3,rfl,?_⟩;revert h;refine cut_join (fun v9=>⟨X::X::X::AV.ref 3 0::X::AV.own 5 (List.map Held.toD v9).length::X::X::AV.d (D.l 18 Held.toD a0)::AV.d (D.i (a0.length:Int))::AV.d (D.i (i3:Int))::dd 14 ([]),N::N::N::some (OB.box (Prefix.av a1))::N::some (OB.row 101 18 (List.map Held.toD v9) false)::nn 19 ([])⟩) ?_ ?_
   ·intro k10 h;revert h;refine sel_if ?_ ?_<;>intro h
    ·refine ⟨rfl,?_⟩;obtain ⟨v11,g12,h⟩:=bind_inv h;refine ⟨rfl,apnd_b (f:=Held.toD) (g:=Held.toD) g12,_,apnd_z (f:=Held.toD) g12,?_⟩;exact join_end wk h
    ·exact join_end wk h
   ·rintro v9 h;refine ⟨_,hwi3,?_⟩;exact hK8 _ _ wk h
 ·rintro v1 h;(conv=>whnf);refine .inr ?_;cases h;exact ⟨rfl,rfl⟩
theorem ref24_Widen_ok {a0:List Object} {r:(List Object)} (h:ref24_Widen a0=some r):CallsOK Tryz.prog 19 [AV.d (D.l 6 Object.toD a0)] [] (.d (D.l 6 Object.toD r)) []:=by
 refine ok Tryz.f19 (by kernel_rfl) (by kernel_rfl) ⟨rfl,?_⟩;unfold ref24_Widen at h;refine ⟨a0.length,List.length_map _,?_⟩;revert h;refine cut_join (fun v1=>⟨X::X::X::AV.own 3 (List.map Object.toD v1).length::dd 20 ([]),N::N::N::some (OB.row 77 6 (List.map Object.toD v1) false)::nn 20 ([])⟩) ?_ ?_
 ·intro k2 h;revert h;refine loop_for 6 6 Object.toD rfl (fun i3 v4=>⟨X::X::X::AV.own 3 (List.map Object.toD v4).length::X::X::AV.d (D.l 6 Object.toD a0)::AV.d (D.i (a0.length:Int))::AV.d (D.i (i3:Int))::dd 15 ([]),N::N::N::some (OB.row 77 6 (List.map Object.toD v4) false)::nn 20 ([])⟩) ?_ ?_ ?_
  ·exact wk
  ·rintro v4 K5 h;(conv=>whnf);refine .go ?_;(conv=>whnf);refine sel_f lt_f ?_;exact join_end wk h
  ·rintro next6 i3 x7 v4 K5 hii3 hxi3 hwi3 h hK8;(conv=>whnf);refine .go ?_;(conv=>whnf);refine sel_t (lt_t hii3) ?_;(conv=>whnf);refine .go ?_;refine ⟨idx_b (f:=Object.toD) hii3,Object.toD x7,hxi3,rfl,?_⟩;obtain ⟨v9,g10,h⟩:=bind_inv h;refine ⟨_,_,some [],ref24_width_ok g10,?_⟩;refine ⟨rfl,?_⟩;obtain ⟨v11,g12,h⟩:=bind_inv h;refine ⟨rfl,apnd_b (f:=Object.toD) (g:=Object.toD) g12,_,apnd_z (f:=Object.toD) g12,?_⟩;refine ⟨_,hwi3,?_⟩;exact hK8 _ _ wk h
 ·rintro v1 h;(conv=>whnf);refine .inl ?_;refine ⟨rfl,?_⟩;cases h;exact ⟨rfl,rfl⟩
theorem ref02_Contains_ok {a0:Prefix} {a1:Addr} {r:Bool} (h:ref02_Contains a0 a1=some r):CallsOK Tryz.prog 12 [AV.d (Prefix.toD a0),AV.d (Addr.toD a1)] [] (.d (D.b r)) []:=by
 refine ok Tryz.f12 (by kernel_rfl) (by kernel_rfl) ⟨rfl,?_⟩;unfold ref02_Contains at h;obtain ⟨⟨v1,v2⟩,g3,h⟩:=bind_inv h;refine ⟨_,_,some [],ref02_Make_ok g3,?_⟩;revert h;refine cut_join (fun v4=>⟨dd 4 (AV.d (D.b v4)::dd 16 ([])),nn 21 ([])⟩) ?_ ?_
 ·intro k5 h;revert h;refine sel_if ?_ ?_<;>intro h
  ·exact join_end wk h
  ·exact join_end wk h
 ·rintro v4 h;cases h;exact ⟨rfl,rfl⟩
theorem ref02_Covers_ok {a0:Prefix} {a1:Prefix} {r:Bool} (h:ref02_Covers a0 a1=some r):CallsOK Tryz.prog 20 [AV.d (Prefix.toD a0),AV.d (Prefix.toD a1)] [] (.d (D.b r)) []:=by
 refine ok Tryz.f20 (by kernel_rfl) (by kernel_rfl) ⟨rfl,?_⟩;unfold ref02_Covers at h;revert h;refine cut_join (fun v1=>⟨dd 4 (AV.d (D.b v1)::dd 11 ([])),nn 16 ([])⟩) ?_ ?_
 ·intro k2 h;revert h;refine sel_if ?_ ?_<;>intro h
  ·obtain ⟨v3,g4,h⟩:=bind_inv h;refine ⟨_,_,some [],ref02_Contains_ok g4,?_⟩;exact join_end wk h
  ·exact join_end wk h
 ·rintro v1 h;cases h;exact ⟨rfl,rfl⟩
theorem ref24_ill_ok {a0:Route} {r:Bool} (h:ref24_ill a0=some r):CallsOK Tryz.prog 134 [AV.d (Route.toD a0)] [] (.d (D.b r)) []:=by
 refine ok Tryz.f134 (by kernel_rfl) (by kernel_rfl) ⟨rfl,?_⟩;unfold ref24_ill at h;revert h;refine cut_join (fun v1=>⟨X::X::AV.d (D.b v1)::dd 39 ([]),nn 42 ([])⟩) ?_ ?_
 ·intro k2 h;obtain ⟨v3,g4,h⟩:=bind_inv h;refine ⟨_,_,some [],ref02_Valid_ok g4,?_⟩;revert h;refine sel_if ?_ ?_<;>intro h
  ·exact join_end wk h
  ·obtain ⟨v5,g6,h⟩:=bind_inv h;refine ⟨_,_,some [],ref18_Valid_ok g6,?_⟩;revert h;refine sel_if ?_ ?_<;>intro h
   ·exact join_end wk h
   ·revert h;refine sel_if ?_ ?_<;>intro h
    ·exact join_end wk h
    ·refine ⟨a0.Attrs.Path.length,List.length_map _,?_⟩;revert h;refine sel_if ?_ ?_<;>intro h
     ·exact join_end wk h
     ·revert h;refine sel_if ?_ ?_<;>intro h
      ·exact join_end wk h
      ·exact join_end wk h
 ·rintro v1 h;cases h;exact ⟨rfl,rfl⟩
theorem ref15_First_ok {a0:List Segment} {r:Int×Bool} (h:ref15_First a0=some r):CallsOK Tryz.prog 147 [AV.d (D.l 2 Segment.toD a0)] [] (.tup [.d (D.i r.1),.d (D.b r.2)]) []:=by
 refine ok Tryz.f147 (by kernel_rfl) (by kernel_rfl) ⟨rfl,?_⟩;unfold ref15_First at h;revert h;refine cut_join (fun v1=>⟨AV.d (D.l 2 Segment.toD a0)::dd 16 (AV.d (D.b v1)::dd 6 ([])),nn 24 ([])⟩) ?_ ?_
 ·intro k2 h;obtain ⟨v3,g4,h⟩:=bind_inv h;refine ⟨_,_,some [],ref15_Valid_ok g4,?_⟩;revert h;refine sel_if ?_ ?_<;>intro h
  ·exact join_end wk h
  ·refine ⟨a0.length,List.length_map _,?_⟩;revert h;refine sel_if ?_ ?_<;>intro h
   ·exact join_end wk h
   ·obtain ⟨v5,g6,h⟩:=bind_inv h;refine ⟨geti_b (f:=Segment.toD) g6,Segment.toD v5,geti_d (f:=Segment.toD) g6,rfl,?_⟩;exact join_end wk h
 ·rintro v1 h;(conv=>whnf);refine .go ?_;revert h;refine sel_if ?_ ?_<;>intro h
  ·cases h;exact ⟨rfl,rfl⟩
  ·obtain ⟨v7,g8,h⟩:=bind_inv h;refine ⟨geti_b (f:=Segment.toD) g8,Segment.toD v7,geti_d (f:=Segment.toD) g8,rfl,?_⟩;obtain ⟨v9,g10,h⟩:=bind_inv h;refine ⟨geti_b (f:=D.i) g10,D.i v9,geti_d (f:=D.i) g10,rfl,?_⟩;cases h;exact ⟨rfl,rfl⟩
theorem ref24_has_ok {a0:List Int} {a1:Int} {r:Bool} (h:ref24_has a0 a1=some r):CallsOK Tryz.prog 148 [AV.d (D.l 1 D.i a0),AV.d (D.i a1)] [] (.d (D.b r)) []:=by
 refine ok Tryz.f148 (by kernel_rfl) (by kernel_rfl) ⟨rfl,?_⟩;unfold ref24_has at h;refine ⟨a0.length,List.length_map _,?_⟩;revert h;refine cut_join (fun _=>⟨dd 17 ([]),nn 17 ([])⟩) ?_ ?_
 ·intro k1 h;revert h;refine loop_for 7 1 D.i rfl (fun i2 _=>⟨X::AV.d (D.i a1)::dd 5 (AV.d (D.l 1 D.i a0)::AV.d (D.i (a0.length:Int))::AV.d (D.i (i2:Int))::dd 7 ([])),nn 17 ([])⟩) ?_ ?_ ?_
  ·exact wk
  ·rintro _ K3 h;(conv=>whnf);refine .go ?_;(conv=>whnf);refine sel_f lt_f ?_;exact join_end wk h
  ·rintro next4 i2 x5 _ K3 hii2 hxi2 hwi2 h hK6;(conv=>whnf);refine .go ?_;(conv=>whnf);refine sel_t (lt_t hii2) ?_;(conv=>whnf);refine .go ?_;refine ⟨idx_b (f:=D.i) hii2,D.i x5,hxi2,rfl,?_⟩;(conv=>whnf);refine .go ?_;revert h;refine sel_if ?_ ?_<;>intro h
   ·cases h;exact ⟨rfl,rfl⟩
   ·refine ⟨_,hwi2,?_⟩;exact hK6 _ _ wk h
 ·rintro _ h;cases h;exact ⟨rfl,rfl⟩
theorem ref23_Receive_ok {a0:Int} {a1:Int} {a2:Attrs} {r:Attrs×Int} (h:ref23_Receive a0 a1 a2=some r):CallsOK Tryz.prog 149 [AV.d (D.i a0),AV.d (D.i a1),AV.d (Attrs.toD a2)] [] (.tup [.d (Attrs.toD r.1),.d (D.i r.2)]) []:=by
 refine ok Tryz.f149 (by kernel_rfl) (by kernel_rfl) ⟨rfl,?_⟩;unfold ref23_Receive at h;obtain ⟨v1,g2,h⟩:=bind_inv h;refine ⟨_,_,some [],ref23_bad_ok g2,?_⟩;(conv=>whnf);refine .go ?_;revert h;refine sel_if ?_ ?_<;>intro h
 ·cases h;exact ⟨rfl,rfl⟩
 ·revert h;refine cut_join (fun v3=>⟨AV.d (D.i a0)::AV.d (D.i a1)::X::X::X::AV.ref 5 0::AV.ref 6 0::X::AV.d (D.b v3)::dd 41 ([]),nn 5 (some (OB.box (Attrs.av a2))::some (OB.box Attrs.zv)::nn 43 ([]))⟩) ?_ ?_
  ·intro k4 h;revert h;refine sel_if ?_ ?_<;>intro h
   ·exact join_end wk h
   ·exact join_end wk h
  ·rintro v3 h;revert h;refine cut_join (fun v5=>⟨AV.d (D.i a0)::AV.d (D.i a1)::X::X::X::AV.ref 5 0::AV.ref 6 0::X::AV.d (D.b v3)::dd 26 (AV.d (D.b v5)::dd 14 ([])),nn 5 (some (OB.box (Attrs.av a2))::some (OB.box Attrs.zv)::nn 43 ([]))⟩) ?_ ?_
   ·intro k6 h;revert h;refine sel_if ?_ ?_<;>intro h
    ·revert h;refine sel_if ?_ ?_<;>intro h
     ·revert h;refine sel_if ?_ ?_<;>intro h
      ·exact join_end wk h
      ·exact join_end wk h
     ·exact join_end wk h
    ·exact join_end wk h
   ·rintro v5 h;(conv=>whnf);refine .go ?_;revert h;refine sel_if ?_ ?_<;>intro h
    ·cases h;exact ⟨rfl,rfl⟩
    ·revert h;refine cut_join (fun v7=>⟨X::AV.d (D.i a1)::X::X::X::AV.ref 5 0::AV.ref 6 0::dd 39 (AV.d (D.b v7)::X::X::X::[]),nn 5 (some (OB.box (Attrs.av a2))::some (OB.box Attrs.zv)::nn 43 ([]))⟩) ?_ ?_
     ·intro k8 h;revert h;refine sel_if ?_ ?_<;>intro h
      ·revert h;refine sel_if ?_ ?_<;>intro h
       ·exact join_end wk h
       ·exact join_end wk h
      ·exact join_end wk h
     ·rintro v7 h;revert h;refine cut_join (fun v9=>⟨dd 5 (AV.ref 5 0::AV.ref 6 0::dd 43 ([])),nn 5 (some (OB.box [AV.d (D.i a2.Origin),AV.d (D.l 2 Segment.toD a2.Path),AV.d (D.b a2.Next.V6),AV.d (D.u64 a2.Next.Hi),AV.d (D.u64 a2.Next.Lo),AV.d (D.i a2.MED),AV.d (D.i a2.Pref),AV.d (D.i v9),AV.d (D.l 2 Community.toD a2.Communities),AV.d (D.l 3 Large.toD a2.Large),AV.d (D.l 3 Unknown.toD a2.Other)])::some (OB.box Attrs.zv)::nn 43 ([]))⟩) ?_ ?_
      ·intro k10 h;revert h;refine sel_if ?_ ?_<;>intro h
       ·exact join_end wk h
       ·exact join_end wk h
      ·rintro v9 h;cases h;exact ⟨rfl,rfl⟩
end Go.AX.Q35
end
section
namespace Go.AX.Q35
open Go Go.AX Go.Proofs
set_option maxRecDepth 100000
set_option maxHeartbeats 4000000
set_option linter.unusedVariables false
theorem ref24_pathed_ok {a0:Filter} {a1:Peer} {a2:Attrs} {r:(List Int)} (h:ref24_pathed a0 a1 a2=some r):CallsOK Tryz.prog 135 [AV.d (Filter.toD a0),AV.d (Peer.toD a1),AV.d (Attrs.toD a2)] [] (AV.own 0 (List.map D.i r).length) [.row 3 1 (List.map D.i r) false]:=by
 refine ok Tryz.f135 (by kernel_rfl) (by kernel_rfl) ⟨rfl,?_⟩;unfold ref24_pathed at h;obtain ⟨⟨v1,v2⟩,g3,h⟩:=bind_inv h;refine ⟨_,_,some [],ref15_First_ok g3,?_⟩;revert h;refine cut_join (fun v4=>⟨X::X::X::AV.ref 3 0::AV.ref 4 0::AV.ref 5 0::X::AV.own 7 (List.map D.i []).length::dd 29 (AV.d (D.b v4)::dd 129 ([])),N::N::N::some (OB.box (Filter.av a0))::some (OB.box (Peer.av a1))::some (OB.box (Attrs.av a2))::N::some (OB.row 3 1 (List.map D.i []) false)::nn 159 ([])⟩) ?_ ?_
 ·intro k5 h;revert h;refine sel_if ?_ ?_<;>intro h
  ·exact join_end wk h
  ·exact join_end wk h
 ·rintro v4 h;revert h;refine cut_join (fun v6=>⟨X::X::X::AV.ref 3 0::AV.ref 4 0::AV.ref 5 0::X::AV.own 7 (List.map D.i v6).length::dd 159 ([]),N::N::N::some (OB.box (Filter.av a0))::some (OB.box (Peer.av a1))::some (OB.box (Attrs.av a2))::N::some (OB.row 3 1 (List.map D.i v6) false)::nn 159 ([])⟩) ?_ ?_
  ·intro k7 h;revert h;refine sel_if ?_ ?_<;>intro h
   ·refine ⟨rfl,?_⟩;obtain ⟨v8,g9,h⟩:=bind_inv h;refine ⟨rfl,apnd_b (f:=D.i) (g:=D.i) g9,_,apnd_z (f:=D.i) g9,?_⟩;exact join_end wk h
   ·exact join_end wk h
  ·rintro v6 h;refine ⟨a1.Nexts.length,List.length_map _,?_⟩;revert h;refine cut_join (fun v10=>⟨X::X::X::AV.ref 3 0::AV.ref 4 0::AV.ref 5 0::X::AV.own 7 (List.map D.i v6).length::X::X::AV.d (D.b v10)::dd 156 ([]),N::N::N::some (OB.box (Filter.av a0))::some (OB.box (Peer.av a1))::some (OB.box (Attrs.av a2))::N::some (OB.row 3 1 (List.map D.i v6) false)::nn 159 ([])⟩) ?_ ?_
   ·intro k11 h;revert h;refine loop_for 42 3 Addr.toD rfl (fun i12 v13=>⟨X::X::X::AV.ref 3 0::AV.ref 4 0::AV.ref 5 0::X::AV.own 7 (List.map D.i v6).length::X::X::AV.d (D.b v13)::dd 31 (AV.d (D.l 3 Addr.toD a1.Nexts)::AV.d (D.i (a1.Nexts.length:Int))::AV.d (D.i (i12:Int))::dd 122 ([])),N::N::N::some (OB.box (Filter.av a0))::some (OB.box (Peer.av a1))::some (OB.box (Attrs.av a2))::N::some (OB.row 3 1 (List.map D.i v6) false)::nn 159 ([])⟩) ?_ ?_ ?_
    ·exact wk
    ·rintro v13 K14 h;(conv=>whnf);refine .go ?_;(conv=>whnf);refine sel_f lt_f ?_;exact join_end wk h
    ·rintro next15 i12 x16 v13 K14 hii12 hxi12 hwi12 h hK17;(conv=>whnf);refine .go ?_;(conv=>whnf);refine sel_t (lt_t hii12) ?_;(conv=>whnf);refine .go ?_;refine ⟨idx_b (f:=Addr.toD) hii12,Addr.toD x16,hxi12,rfl,?_⟩;revert h;refine cut_join (fun v18=>⟨X::X::X::AV.ref 3 0::AV.ref 4 0::AV.ref 5 0::X::AV.own 7 (List.map D.i v6).length::X::X::AV.d (D.b v18)::dd 31 (AV.d (D.l 3 Addr.toD a1.Nexts)::AV.d (D.i (a1.Nexts.length:Int))::AV.d (D.i (i12:Int))::dd 122 ([])),N::N::N::some (OB.box (Filter.av a0))::some (OB.box (Peer.av a1))::some (OB.box (Attrs.av a2))::N::some (OB.row 3 1 (List.map D.i v6) false)::nn 159 ([])⟩) ?_ ?_
     ·intro k19 h;revert h;refine sel_if ?_ ?_<;>intro h
      ·exact join_end wk h
      ·exact join_end wk h
     ·rintro v18 h;refine ⟨_,hwi12,?_⟩;exact hK17 _ _ wk h
   ·rintro v10 h;revert h;refine cut_join (fun v20=>⟨X::X::X::AV.ref 3 0::AV.ref 4 0::AV.ref 5 0::X::AV.own 7 (List.map D.i v20).length::dd 159 ([]),N::N::N::some (OB.box (Filter.av a0))::some (OB.box (Peer.av a1))::some (OB.box (Attrs.av a2))::N::some (OB.row 3 1 (List.map D.i v20) false)::nn 159 ([])⟩) ?_ ?_
    ·intro k21 h;revert h;refine sel_if ?_ ?_<;>intro h
     ·refine ⟨rfl,?_⟩;obtain ⟨v22,g23,h⟩:=bind_inv h;refine ⟨rfl,apnd_b (f:=D.i) (g:=D.i) g23,_,apnd_z (f:=D.i) g23,?_⟩;exact join_end wk h
     ·exact join_end wk h
    ·rintro v20 h;(conv=>whnf);refine dOB (by kernel_rfl) ?_;obtain ⟨v24,g25,h⟩:=bind_inv h;refine ⟨_,_,ref15_Length_ok g25,.inl rfl,?_⟩;(conv=>whnf);refine cOB (by kernel_rfl) ?_;revert h;refine cut_join (fun v26=>⟨X::X::X::AV.ref 3 0::AV.ref 4 0::AV.ref 5 0::X::AV.own 7 (List.map D.i v26).length::dd 159 ([]),N::N::N::some (OB.box (Filter.av a0))::some (OB.box (Peer.av a1))::some (OB.box (Attrs.av a2))::N::some (OB.row 3 1 (List.map D.i v26) false)::nn 159 ([])⟩) ?_ ?_
     ·intro k27 h;revert h;refine sel_if ?_ ?_<;>intro h
      ·refine ⟨rfl,?_⟩;obtain ⟨v28,g29,h⟩:=bind_inv h;refine ⟨rfl,apnd_b (f:=D.i) (g:=D.i) g29,_,apnd_z (f:=D.i) g29,?_⟩;exact join_end wk h
      ·exact join_end wk h
     ·rintro v26 h;obtain ⟨v30,g31,h⟩:=bind_inv h;refine ⟨_,_,some [],ref15_Has_ok g31,?_⟩;revert h;refine cut_join (fun v32=>⟨X::X::X::AV.ref 3 0::AV.ref 4 0::AV.ref 5 0::X::AV.own 7 (List.map D.i v32).length::dd 159 ([]),N::N::N::some (OB.box (Filter.av a0))::some (OB.box (Peer.av a1))::some (OB.box (Attrs.av a2))::N::some (OB.row 3 1 (List.map D.i v32) false)::nn 159 ([])⟩) ?_ ?_
      ·intro k33 h;revert h;refine sel_if ?_ ?_<;>intro h
       ·refine ⟨rfl,?_⟩;obtain ⟨v34,g35,h⟩:=bind_inv h;refine ⟨rfl,apnd_b (f:=D.i) (g:=D.i) g35,_,apnd_z (f:=D.i) g35,?_⟩;exact join_end wk h
       ·exact join_end wk h
      ·rintro v32 h;refine ⟨a2.Path.length,List.length_map _,?_⟩;revert h;refine cut_join (fun v36=>⟨X::X::X::AV.ref 3 0::AV.ref 4 0::AV.ref 5 0::X::AV.own 7 (List.map D.i v32).length::dd 5 (AV.d (D.b v36)::AV.d (D.b false)::AV.d (D.b false)::dd 151 ([])),N::N::N::some (OB.box (Filter.av a0))::some (OB.box (Peer.av a1))::some (OB.box (Attrs.av a2))::N::some (OB.row 3 1 (List.map D.i v32) false)::nn 159 ([])⟩) ?_ ?_
       ·intro k37 h;revert h;refine loop_for 79 2 Segment.toD rfl (fun i38 v39=>⟨X::X::X::AV.ref 3 0::AV.ref 4 0::AV.ref 5 0::X::AV.own 7 (List.map D.i v32).length::dd 5 (AV.d (D.b v39)::AV.d (D.b false)::AV.d (D.b false)::dd 63 (AV.d (D.l 2 Segment.toD a2.Path)::AV.d (D.i (a2.Path.length:Int))::AV.d (D.i (i38:Int))::dd 85 ([]))),N::N::N::some (OB.box (Filter.av a0))::some (OB.box (Peer.av a1))::some (OB.box (Attrs.av a2))::N::some (OB.row 3 1 (List.map D.i v32) false)::nn 159 ([])⟩) ?_ ?_ ?_
        ·exact wk
        ·rintro v39 K40 h;(conv=>whnf);refine .go ?_;(conv=>whnf);refine sel_f lt_f ?_;exact join_end wk h
        ·rintro next41 i38 x42 v39 K40 hii38 hxi38 hwi38 h hK43;(conv=>whnf);refine .go ?_;(conv=>whnf);refine sel_t (lt_t hii38) ?_;(conv=>whnf);refine .go ?_;refine ⟨idx_b (f:=Segment.toD) hii38,Segment.toD x42,hxi38,rfl,?_⟩;revert h;refine cut_join (fun v44=>⟨X::X::X::AV.ref 3 0::AV.ref 4 0::AV.ref 5 0::X::AV.own 7 (List.map D.i v32).length::dd 5 (AV.d (D.b v44)::AV.d (D.b false)::AV.d (D.b false)::dd 63 (AV.d (D.l 2 Segment.toD a2.Path)::AV.d (D.i (a2.Path.length:Int))::AV.d (D.i (i38:Int))::dd 85 ([]))),N::N::N::some (OB.box (Filter.av a0))::some (OB.box (Peer.av a1))::some (OB.box (Attrs.av a2))::N::some (OB.row 3 1 (List.map D.i v32) false)::nn 159 ([])⟩) ?_ ?_
         ·intro k45 h;revert h;refine sel_if ?_ ?_<;>intro h
          ·exact join_end wk h
          ·exact join_end wk h
         ·rintro v44 h;refine ⟨_,hwi38,?_⟩;exact hK43 _ _ wk h
       ·rintro v36 h;obtain ⟨v46,g47,h⟩:=bind_inv h;refine ⟨_,_,some [],ref15_Flat_ok g47,?_⟩;refine ⟨v46.length,List.length_map _,?_⟩;revert h;refine cut_join (fun (v48,v49)=>⟨dd 4 (AV.ref 4 0::AV.ref 5 0::X::AV.own 7 (List.map D.i v32).length::dd 5 (AV.d (D.b v36)::AV.d (D.b v48)::AV.d (D.b v49)::dd 151 ([]))),nn 4 (some (OB.box (Peer.av a1))::some (OB.box (Attrs.av a2))::N::some (OB.row 3 1 (List.map D.i v32) false)::nn 159 ([]))⟩) ?_ ?_
        ·intro k50 h;revert h;refine loop_for 93 1 D.i rfl (fun i51 (v52,v53)=>⟨X::X::X::AV.ref 3 0::AV.ref 4 0::AV.ref 5 0::X::AV.own 7 (List.map D.i v32).length::dd 5 (AV.d (D.b v36)::AV.d (D.b v52)::AV.d (D.b v53)::dd 77 (AV.d (D.l 1 D.i v46)::AV.d (D.i (v46.length:Int))::AV.d (D.i (i51:Int))::dd 71 ([]))),N::N::N::some (OB.box (Filter.av a0))::some (OB.box (Peer.av a1))::some (OB.box (Attrs.av a2))::N::some (OB.row 3 1 (List.map D.i v32) false)::nn 159 ([])⟩) ?_ ?_ ?_
         ·exact wk
         ·rintro ⟨v52,v53⟩ K54 h;(conv=>whnf);refine .go ?_;(conv=>whnf);refine sel_f lt_f ?_;exact join_end wk h
         ·rintro next55 i51 x56 ⟨v52,v53⟩ K54 hii51 hxi51 hwi51 h hK57;(conv=>whnf);refine .go ?_;(conv=>whnf);refine sel_t (lt_t hii51) ?_;revert h;refine cut_join (fun (v58,v59)=>⟨X::X::X::AV.ref 3 0::AV.ref 4 0::AV.ref 5 0::X::AV.own 7 (List.map D.i v32).length::dd 5 (AV.d (D.b v36)::AV.d (D.b v58)::AV.d (D.b v59)::dd 77 (AV.d (D.l 1 D.i v46)::AV.d (D.i (v46.length:Int))::AV.d (D.i (i51:Int))::dd 71 ([]))),N::N::N::some (OB.box (Filter.av a0))::some (OB.box (Peer.av a1))::some (OB.box (Attrs.av a2))::N::some (OB.row 3 1 (List.map D.i v32) false)::nn 159 ([])⟩) ?_ ?_
          ·intro k60 h;refine ⟨idx_b (f:=D.i) hii51,D.i x56,hxi51,rfl,?_⟩;refine ⟨a0.Private.length,List.length_map _,?_⟩;revert h;refine cut_join (fun v61=>⟨X::X::X::AV.ref 3 0::AV.ref 4 0::AV.ref 5 0::X::AV.own 7 (List.map D.i v32).length::dd 5 (AV.d (D.b v36)::AV.d (D.b v61)::AV.d (D.b v53)::X::X::X::AV.d (D.i x56)::dd 73 (AV.d (D.l 1 D.i v46)::AV.d (D.i (v46.length:Int))::AV.d (D.i (i51:Int))::dd 71 ([]))),N::N::N::some (OB.box (Filter.av a0))::some (OB.box (Peer.av a1))::some (OB.box (Attrs.av a2))::N::some (OB.row 3 1 (List.map D.i v32) false)::nn 159 ([])⟩) ?_ ?_
           ·intro k62 h;revert h;refine loop_for 100 2 Span.toD rfl (fun i63 v64=>⟨X::X::X::AV.ref 3 0::AV.ref 4 0::AV.ref 5 0::X::AV.own 7 (List.map D.i v32).length::dd 5 (AV.d (D.b v36)::AV.d (D.b v64)::AV.d (D.b v53)::X::X::X::AV.d (D.i x56)::dd 73 (AV.d (D.l 1 D.i v46)::AV.d (D.i (v46.length:Int))::AV.d (D.i (i51:Int))::dd 4 (AV.d (D.l 2 Span.toD a0.Private)::AV.d (D.i (a0.Private.length:Int))::AV.d (D.i (i63:Int))::dd 64 ([])))),N::N::N::some (OB.box (Filter.av a0))::some (OB.box (Peer.av a1))::some (OB.box (Attrs.av a2))::N::some (OB.row 3 1 (List.map D.i v32) false)::nn 159 ([])⟩) ?_ ?_ ?_
            ·exact wk
            ·rintro v64 K65 h;(conv=>whnf);refine .go ?_;(conv=>whnf);refine sel_f lt_f ?_;exact join_end wk h
            ·rintro next66 i63 x67 v64 K65 hii63 hxi63 hwi63 h hK68;(conv=>whnf);refine .go ?_;(conv=>whnf);refine sel_t (lt_t hii63) ?_;(conv=>whnf);refine .go ?_;refine ⟨idx_b (f:=Span.toD) hii63,Span.toD x67,hxi63,rfl,?_⟩;revert h;refine cut_join (fun v69=>⟨X::X::X::AV.ref 3 0::AV.ref 4 0::AV.ref 5 0::X::AV.own 7 (List.map D.i v32).length::dd 5 (AV.d (D.b v36)::AV.d (D.b v69)::AV.d (D.b v53)::X::X::X::AV.d (D.i x56)::dd 73 (AV.d (D.l 1 D.i v46)::AV.d (D.i (v46.length:Int))::AV.d (D.i (i51:Int))::dd 4 (AV.d (D.l 2 Span.toD a0.Private)::AV.d (D.i (a0.Private.length:Int))::AV.d (D.i (i63:Int))::dd 64 ([])))),N::N::N::some (OB.box (Filter.av a0))::some (OB.box (Peer.av a1))::some (OB.box (Attrs.av a2))::N::some (OB.row 3 1 (List.map D.i v32) false)::nn 159 ([])⟩) ?_ ?_
             ·intro k70 h;revert h;refine sel_if ?_ ?_<;>intro h
              ·exact join_end wk h
              ·revert h;refine sel_if ?_ ?_<;>intro h
               ·exact join_end wk h
               ·exact join_end wk h
             ·rintro v69 h;refine ⟨_,hwi63,?_⟩;exact hK68 _ _ wk h
           ·rintro v61 h;revert h;refine cut_join (fun v71=>⟨X::X::X::AV.ref 3 0::AV.ref 4 0::AV.ref 5 0::X::AV.own 7 (List.map D.i v32).length::dd 5 (AV.d (D.b v36)::AV.d (D.b v61)::AV.d (D.b v71)::dd 77 (AV.d (D.l 1 D.i v46)::AV.d (D.i (v46.length:Int))::AV.d (D.i (i51:Int))::dd 71 ([]))),N::N::N::some (OB.box (Filter.av a0))::some (OB.box (Peer.av a1))::some (OB.box (Attrs.av a2))::N::some (OB.row 3 1 (List.map D.i v32) false)::nn 159 ([])⟩) ?_ ?_
            ·intro k72 h;revert h;refine sel_if ?_ ?_<;>intro h
             ·exact join_end wk h
             ·revert h;refine sel_if ?_ ?_<;>intro h
              ·obtain ⟨v73,g74,h⟩:=bind_inv h;refine ⟨_,_,some [],ref24_has_ok g74,?_⟩;revert h;refine sel_if ?_ ?_<;>intro h
               ·obtain ⟨v75,g76,h⟩:=bind_inv h;refine ⟨_,_,some [],ref24_has_ok g76,?_⟩;exact join_end wk h
               ·exact join_end wk h
              ·exact join_end wk h
            ·rintro v71 h;exact join_end wk h
          ·rintro ⟨v58,v59⟩ h;refine ⟨_,hwi51,?_⟩;exact hK57 _ _ wk h
        ·rintro ⟨v48,v49⟩ h;revert h;refine cut_join (fun v77=>⟨dd 4 (AV.ref 4 0::AV.ref 5 0::X::AV.own 7 (List.map D.i v77).length::dd 6 (AV.d (D.b v48)::AV.d (D.b v49)::dd 151 ([]))),nn 4 (some (OB.box (Peer.av a1))::some (OB.box (Attrs.av a2))::N::some (OB.row 3 1 (List.map D.i v77) false)::nn 159 ([]))⟩) ?_ ?_
         ·intro k78 h;revert h;refine sel_if ?_ ?_<;>intro h
          ·refine ⟨rfl,?_⟩;obtain ⟨v79,g80,h⟩:=bind_inv h;refine ⟨rfl,apnd_b (f:=D.i) (g:=D.i) g80,_,apnd_z (f:=D.i) g80,?_⟩;exact join_end wk h
          ·exact join_end wk h
         ·rintro v77 h;revert h;refine cut_join (fun v81=>⟨dd 4 (AV.ref 4 0::AV.ref 5 0::X::AV.own 7 (List.map D.i v81).length::dd 7 (AV.d (D.b v49)::dd 151 ([]))),nn 4 (some (OB.box (Peer.av a1))::some (OB.box (Attrs.av a2))::N::some (OB.row 3 1 (List.map D.i v81) false)::nn 159 ([]))⟩) ?_ ?_
          ·intro k82 h;revert h;refine sel_if ?_ ?_<;>intro h
           ·refine ⟨rfl,?_⟩;obtain ⟨v83,g84,h⟩:=bind_inv h;refine ⟨rfl,apnd_b (f:=D.i) (g:=D.i) g84,_,apnd_z (f:=D.i) g84,?_⟩;exact join_end wk h
           ·exact join_end wk h
          ·rintro v81 h;revert h;refine cut_join (fun v85=>⟨dd 4 (AV.ref 4 0::AV.ref 5 0::X::AV.own 7 (List.map D.i v85).length::dd 159 ([])),nn 4 (some (OB.box (Peer.av a1))::some (OB.box (Attrs.av a2))::N::some (OB.row 3 1 (List.map D.i v85) false)::nn 159 ([]))⟩) ?_ ?_
           ·intro k86 h;revert h;refine sel_if ?_ ?_<;>intro h
            ·refine ⟨rfl,?_⟩;obtain ⟨v87,g88,h⟩:=bind_inv h;refine ⟨rfl,apnd_b (f:=D.i) (g:=D.i) g88,_,apnd_z (f:=D.i) g88,?_⟩;exact join_end wk h
            ·exact join_end wk h
           ·rintro v85 h;obtain ⟨⟨v89,v90⟩,g91,h⟩:=bind_inv h;refine ⟨_,_,some [],ref23_Receive_ok g91,?_⟩;revert h;refine cut_join (fun v92=>⟨dd 7 (AV.own 7 (List.map D.i v92).length::dd 159 ([])),nn 7 (some (OB.row 3 1 (List.map D.i v92) false)::nn 159 ([]))⟩) ?_ ?_
            ·intro k93 h;revert h;refine sel_if ?_ ?_<;>intro h
             ·refine ⟨rfl,?_⟩;obtain ⟨v94,g95,h⟩:=bind_inv h;refine ⟨rfl,apnd_b (f:=D.i) (g:=D.i) g95,_,apnd_z (f:=D.i) g95,?_⟩;exact join_end wk h
             ·exact join_end wk h
            ·rintro v92 h;(conv=>whnf);refine .inr ?_;cases h;exact ⟨rfl,rfl⟩
theorem ref24_long_ok {a0:Filter} {a1:Route} {r:Bool} (h:ref24_long a0 a1=some r):CallsOK Tryz.prog 136 [AV.d (Filter.toD a0),AV.d (Route.toD a1)] [] (.d (D.b r)) []:=by
 refine ok Tryz.f136 (by kernel_rfl) (by kernel_rfl) ⟨rfl,?_⟩;unfold ref24_long at h;(conv=>whnf);refine dOB (by kernel_rfl) ?_;(conv=>whnf);refine cOB (by kernel_rfl) ?_;revert h;refine cut_join (fun (v1,v2,v3)=>⟨X::X::X::AV.ref 3 0::X::AV.d (D.i v1)::AV.d (D.i v2)::AV.d (D.i v3)::dd 36 ([]),N::N::N::some (OB.box (Route.av a1))::nn 40 ([])⟩) ?_ ?_
 ·intro k4 h;revert h;refine sel_if ?_ ?_<;>intro h
  ·(conv=>whnf);refine dOB (by kernel_rfl) ?_;(conv=>whnf);refine cOB (by kernel_rfl) ?_;exact join_end wk h
  ·exact join_end wk h
 ·rintro ⟨v1,v2,v3⟩ h;obtain ⟨v5,g6,h⟩:=bind_inv h;refine ⟨_,_,some [],ref24_Hole_ok g6,?_⟩;(conv=>whnf);refine .go ?_;revert h;refine sel_if ?_ ?_<;>intro h
  ·cases h;exact ⟨rfl,rfl⟩
  ·revert h;refine cut_join (fun v7=>⟨dd 4 (AV.d (D.b v7)::dd 39 ([])),nn 44 ([])⟩) ?_ ?_
   ·intro k8 h;revert h;refine sel_if ?_ ?_<;>intro h
    ·exact join_end wk h
    ·exact join_end wk h
   ·rintro v7 h;cases h;exact ⟨rfl,rfl⟩
theorem ref15_Origin_ok {a0:List Segment} {r:Int×Bool} (h:ref15_Origin a0=some r):CallsOK Tryz.prog 137 [AV.d (D.l 2 Segment.toD a0)] [] (.tup [.d (D.i r.1),.d (D.b r.2)]) []:=by
 refine ok Tryz.f137 (by kernel_rfl) (by kernel_rfl) ⟨rfl,?_⟩;unfold ref15_Origin at h;revert h;refine cut_join (fun v1=>⟨AV.d (D.l 2 Segment.toD a0)::dd 20 (AV.d (D.b v1)::dd 8 ([])),nn 30 ([])⟩) ?_ ?_
 ·intro k2 h;obtain ⟨v3,g4,h⟩:=bind_inv h;refine ⟨_,_,some [],ref15_Valid_ok g4,?_⟩;revert h;refine sel_if ?_ ?_<;>intro h
  ·exact join_end wk h
  ·refine ⟨a0.length,List.length_map _,?_⟩;revert h;refine sel_if ?_ ?_<;>intro h
   ·exact join_end wk h
   ·refine ⟨a0.length,List.length_map _,?_⟩;refine ⟨_,rfl,?_⟩;obtain ⟨v5,g6,h⟩:=bind_inv h;refine ⟨geti_b (f:=Segment.toD) g6,Segment.toD v5,geti_d (f:=Segment.toD) g6,rfl,?_⟩;exact join_end wk h
 ·rintro v1 h;(conv=>whnf);refine .go ?_;revert h;refine sel_if ?_ ?_<;>intro h
  ·cases h;exact ⟨rfl,rfl⟩
  ·obtain ⟨v7,g8,h⟩:=bind_inv h;refine ⟨_,_,some [],ref15_Flat_ok g8,?_⟩;refine ⟨v7.length,List.length_map _,?_⟩;refine ⟨_,rfl,?_⟩;obtain ⟨v9,g10,h⟩:=bind_inv h;refine ⟨geti_b (f:=D.i) g10,D.i v9,geti_d (f:=D.i) g10,rfl,?_⟩;cases h;exact ⟨rfl,rfl⟩
theorem ref20_find_ok {a0:Registry} {a1:ByteArray} {r:Set×Bool} (h:ref20_find a0 a1=some r):CallsOK Tryz.prog 154 [AV.d (Registry.toD a0),AV.d (D.s a1)] [] (.tup [.d (Set.toD r.1),.d (D.b r.2)]) []:=by
 refine ok Tryz.f154 (by kernel_rfl) (by kernel_rfl) ⟨rfl,?_⟩;unfold ref20_find at h;refine ⟨a0.Sets.length,List.length_map _,?_⟩;revert h;refine cut_join (fun _=>⟨dd 4 (AV.ref 4 0::dd 17 ([])),nn 4 (some (OB.box Set.zv)::nn 17 ([]))⟩) ?_ ?_
 ·intro k1 h;revert h;refine loop_for 9 3 Set.toD rfl (fun i2 _=>⟨X::AV.d (D.s a1)::X::X::AV.ref 4 0::dd 4 (AV.d (D.l 3 Set.toD a0.Sets)::AV.d (D.i (a0.Sets.length:Int))::AV.d (D.i (i2:Int))::dd 10 ([])),nn 4 (some (OB.box Set.zv)::nn 17 ([]))⟩) ?_ ?_ ?_
  ·exact wk
  ·rintro _ K3 h;(conv=>whnf);refine .go ?_;(conv=>whnf);refine sel_f lt_f ?_;exact join_end wk h
  ·rintro next4 i2 x5 _ K3 hii2 hxi2 hwi2 h hK6;(conv=>whnf);refine .go ?_;(conv=>whnf);refine sel_t (lt_t hii2) ?_;(conv=>whnf);refine .go ?_;refine ⟨idx_b (f:=Set.toD) hii2,Set.toD x5,hxi2,rfl,?_⟩;(conv=>whnf);refine .go ?_;revert h;refine sel_if ?_ ?_<;>intro h
   ·cases h;exact ⟨rfl,rfl⟩
   ·refine ⟨_,hwi2,?_⟩;exact hK6 _ _ wk h
 ·rintro _ h;cases h;exact ⟨rfl,rfl⟩
theorem ref20_insertName_ok {a0:List ByteArray} {a1:ByteArray} {r:(List ByteArray)} (h:ref20_insertName a0 a1=some r):CallsOK Tryz.prog 155 [AV.d (D.l 1 D.s a0),AV.d (D.s a1)] [] (.d (D.l 1 D.s r)) []:=by
 refine ok Tryz.f155 (by kernel_rfl) (by kernel_rfl) ⟨rfl,?_⟩;unfold ref20_insertName at h;revert h;refine cut_join (fun v1=>⟨AV.d (D.l 1 D.s a0)::AV.d (D.s a1)::X::X::X::AV.d (D.i v1)::dd 38 ([]),nn 44 ([])⟩) ?_ ?_
 ·intro k2 h;revert h;refine loop_while (fun v3=>⟨AV.d (D.l 1 D.s a0)::AV.d (D.s a1)::X::X::X::AV.d (D.i v3)::dd 38 ([]),nn 44 ([])⟩) ?_ ?_
  ·exact wk
  rintro next4 v3 K5 h hK6;revert h;refine cut_join (fun v7=>⟨AV.d (D.l 1 D.s a0)::AV.d (D.s a1)::X::X::X::AV.d (D.i v3)::dd 11 (AV.d (D.b v7)::dd 26 ([])),nn 44 ([])⟩) ?_ ?_
  ·intro k8 h;refine ⟨a0.length,List.length_map _,?_⟩;revert h;refine sel_if ?_ ?_<;>intro h
   ·obtain ⟨v9,g10,h⟩:=bind_inv h;refine ⟨geti_b (f:=D.s) g10,D.s v9,geti_d (f:=D.s) g10,rfl,?_⟩;exact join_end wk h
   ·exact join_end wk h
  ·rintro v7 h;(conv=>whnf);refine .go ?_;revert h;refine sel_if ?_ ?_<;>intro h
   ·(conv=>whnf);refine .go ?_;refine ⟨_,rfl,?_⟩;exact hK6 _ _ wk h
   ·exact join_end wk h
 ·rintro v1 h;revert h;refine cut_join (fun v11=>⟨AV.d (D.l 1 D.s a0)::AV.d (D.s a1)::X::X::X::AV.d (D.i v1)::dd 25 (AV.d (D.b v11)::dd 12 ([])),nn 44 ([])⟩) ?_ ?_
  ·intro k12 h;refine ⟨a0.length,List.length_map _,?_⟩;revert h;refine sel_if ?_ ?_<;>intro h
   ·obtain ⟨v13,g14,h⟩:=bind_inv h;refine ⟨geti_b (f:=D.s) g14,D.s v13,geti_d (f:=D.s) g14,rfl,?_⟩;exact join_end wk h
   ·exact join_end wk h
  ·rintro v11 h;(conv=>whnf);refine .go ?_;revert h;refine sel_if ?_ ?_<;>intro h
   ·cases h;exact ⟨rfl,rfl⟩
   ·(conv=>whnf);refine dOB (by kernel_rfl) ?_;obtain ⟨v15,g16,h⟩:=bind_inv h;refine ⟨part_b (f:=D.s) g16,_,part_z (f:=D.s) g16,?_⟩;obtain ⟨_,g17,h⟩:=bind_inv h;refine ⟨apnd_b0 (g:=D.s) g17,?_⟩;refine ⟨rfl,?_⟩;obtain ⟨v18,g19,h⟩:=bind_inv h;refine ⟨rfl,apnd_b (f:=D.s) (g:=D.s) g19,_,apnd_z (f:=D.s) g19,?_⟩;obtain ⟨v20,g21,h⟩:=bind_inv h;refine ⟨part_b0 (f:=D.s) g21,_,part_z0 (f:=D.s) g21,?_⟩;obtain ⟨v22,g23,h⟩:=bind_inv h;refine ⟨rfl,apnd_b (f:=D.s) (g:=D.s) g23,_,apnd_z (f:=D.s) g23,?_⟩;(conv=>whnf);refine cOB (by kernel_rfl) ?_;(conv=>whnf);refine .inl ?_;refine ⟨rfl,?_⟩;cases h;exact ⟨rfl,rfl⟩
theorem ref20_insert_ok {a0:List Int} {a1:Int} {r:(List Int)} (h:ref20_insert a0 a1=some r):CallsOK Tryz.prog 156 [AV.d (D.l 1 D.i a0),AV.d (D.i a1)] [] (.d (D.l 1 D.i r)) []:=by
 refine ok Tryz.f156 (by kernel_rfl) (by kernel_rfl) ⟨rfl,?_⟩;unfold ref20_insert at h;revert h;refine cut_join (fun v1=>⟨AV.d (D.l 1 D.i a0)::AV.d (D.i a1)::X::X::X::AV.d (D.i v1)::dd 38 ([]),nn 44 ([])⟩) ?_ ?_
 ·intro k2 h;revert h;refine loop_while (fun v3=>⟨AV.d (D.l 1 D.i a0)::AV.d (D.i a1)::X::X::X::AV.d (D.i v3)::dd 38 ([]),nn 44 ([])⟩) ?_ ?_
  ·exact wk
  rintro next4 v3 K5 h hK6;revert h;refine cut_join (fun v7=>⟨AV.d (D.l 1 D.i a0)::AV.d (D.i a1)::X::X::X::AV.d (D.i v3)::dd 11 (AV.d (D.b v7)::dd 26 ([])),nn 44 ([])⟩) ?_ ?_
  ·intro k8 h;refine ⟨a0.length,List.length_map _,?_⟩;revert h;refine sel_if ?_ ?_<;>intro h
   ·obtain ⟨v9,g10,h⟩:=bind_inv h;refine ⟨geti_b (f:=D.i) g10,D.i v9,geti_d (f:=D.i) g10,rfl,?_⟩;exact join_end wk h
   ·exact join_end wk h
  ·rintro v7 h;(conv=>whnf);refine .go ?_;revert h;refine sel_if ?_ ?_<;>intro h
   ·(conv=>whnf);refine .go ?_;refine ⟨_,rfl,?_⟩;exact hK6 _ _ wk h
   ·exact join_end wk h
 ·rintro v1 h;revert h;refine cut_join (fun v11=>⟨AV.d (D.l 1 D.i a0)::AV.d (D.i a1)::X::X::X::AV.d (D.i v1)::dd 25 (AV.d (D.b v11)::dd 12 ([])),nn 44 ([])⟩) ?_ ?_
  ·intro k12 h;refine ⟨a0.length,List.length_map _,?_⟩;revert h;refine sel_if ?_ ?_<;>intro h
   ·obtain ⟨v13,g14,h⟩:=bind_inv h;refine ⟨geti_b (f:=D.i) g14,D.i v13,geti_d (f:=D.i) g14,rfl,?_⟩;exact join_end wk h
   ·exact join_end wk h
  ·rintro v11 h;(conv=>whnf);refine .go ?_;revert h;refine sel_if ?_ ?_<;>intro h
   ·cases h;exact ⟨rfl,rfl⟩
   ·(conv=>whnf);refine dOB (by kernel_rfl) ?_;obtain ⟨v15,g16,h⟩:=bind_inv h;refine ⟨part_b (f:=D.i) g16,_,part_z (f:=D.i) g16,?_⟩;obtain ⟨_,g17,h⟩:=bind_inv h;refine ⟨apnd_b0 (g:=D.i) g17,?_⟩;refine ⟨rfl,?_⟩;obtain ⟨v18,g19,h⟩:=bind_inv h;refine ⟨rfl,apnd_b (f:=D.i) (g:=D.i) g19,_,apnd_z (f:=D.i) g19,?_⟩;obtain ⟨v20,g21,h⟩:=bind_inv h;refine ⟨part_b0 (f:=D.i) g21,_,part_z0 (f:=D.i) g21,?_⟩;obtain ⟨v22,g23,h⟩:=bind_inv h;refine ⟨rfl,apnd_b (f:=D.i) (g:=D.i) g23,_,apnd_z (f:=D.i) g23,?_⟩;(conv=>whnf);refine cOB (by kernel_rfl) ?_;(conv=>whnf);refine .inl ?_;refine ⟨rfl,?_⟩;cases h;exact ⟨rfl,rfl⟩
end Go.AX.Q35
end
section
namespace Go.AX.Q35
open Go Go.AX Go.Proofs
set_option maxRecDepth 100000
set_option maxHeartbeats 4000000
set_option linter.unusedVariables false
theorem ref20_Expand_ok {a0:Registry} {a1:ByteArray} {r:(List Int)×(List ByteArray)×Int} (h:ref20_Expand a0 a1=some r):CallsOK Tryz.prog 150 [AV.d (Registry.toD a0),AV.d (D.s a1)] [] (.tup [.d (D.l 1 D.i r.1),.d (D.l 1 D.s r.2.1),.d (D.i r.2.2)]) []:=by
 refine ok Tryz.f150 (by kernel_rfl) (by kernel_rfl) ⟨rfl,?_⟩;unfold ref20_Expand at h;obtain ⟨v1,g2,h⟩:=bind_inv h;refine ⟨_,_,some [],ref20_Valid_ok g2,?_⟩;(conv=>whnf);refine .go ?_;revert h;refine sel_if ?_ ?_<;>intro h
 ·cases h;exact ⟨rfl,rfl⟩
 ·obtain ⟨⟨v3,v4⟩,g5,h⟩:=bind_inv h;refine ⟨_,_,some [],ref20_find_ok g5,?_⟩;(conv=>whnf);refine .go ?_;revert h;refine sel_if ?_ ?_<;>intro h
  ·cases h;exact ⟨rfl,rfl⟩
  ·refine ⟨_,mapSet_ok (ek:=D.s) (ev:=D.b) (l:=[]) (k:=a1) (v:=true) keyEq_s,?_⟩;revert h;refine cut_join (fun (v6,v7)=>⟨dd 9 (AV.d (D.l 1 D.i v6)::AV.d (D.l 1 D.s v7)::dd 75 ([])),nn 86 ([])⟩) ?_ ?_
   ·intro k8 h;revert h;refine loop_while (fun (v9,v10,v11,v12)=>⟨X::X::AV.ref 2 0::dd 6 (AV.d (D.l 1 D.i v9)::AV.d (D.l 1 D.s v10)::AV.mp 30::AV.own 34 (List.map D.s v12).length::dd 73 ([])),N::N::some (OB.box (Registry.av a0))::nn 27 (some (OB.map 9 4 (entsD D.s D.b v11))::N::N::N::some (OB.row 9 1 (List.map D.s v12) false)::nn 51 ([]))⟩) ?_ ?_
    ·exact wk
    rintro next13 ⟨v9,v10,v11,v12⟩ K14 h hK15;refine ⟨v12.length,by first | exact List.length_map _ | rfl | (simp only [List.length_map];omega),?_⟩;(conv=>whnf);refine .go ?_;revert h;refine sel_if ?_ ?_<;>intro h
    ·revert h;refine cut_join (fun (v16,v17,v18,v19)=>⟨X::X::AV.ref 2 0::dd 6 (AV.d (D.l 1 D.i v16)::AV.d (D.l 1 D.s v17)::AV.mp 30::AV.own 54 (List.map D.s v19).length::dd 73 ([])),N::N::some (OB.box (Registry.av a0))::nn 27 (some (OB.map 9 4 (entsD D.s D.b v18))::nn 23 (some (OB.row 9 1 (List.map D.s v19) false)::nn 31 ([])))⟩) ?_ ?_
     ·intro k20 h;(conv=>whnf);refine dOB (by kernel_rfl) ?_;obtain ⟨v21,g22,h⟩:=bind_inv h;refine ⟨rfl,geti_b (f:=D.s) g22,?_⟩;refine ⟨rfl,D.s v21,(geti_d (f:=D.s) g22),?_⟩;obtain ⟨⟨v23,v24⟩,g25,h⟩:=bind_inv h;refine ⟨_,_,ref20_find_ok g25,.inl rfl,?_⟩;(conv=>whnf);refine cOB (by kernel_rfl) ?_;revert h;refine cut_join (fun v26=>⟨X::X::AV.ref 2 0::dd 6 (AV.d (D.l 1 D.i v9)::AV.d (D.l 1 D.s v26)::AV.mp 30::AV.own 34 (List.map D.s v12).length::AV.ref 13 0::dd 72 ([])),N::N::some (OB.box (Registry.av a0))::nn 10 (some (OB.box (Set.av v23))::nn 16 (some (OB.map 9 4 (entsD D.s D.b v11))::N::N::N::some (OB.row 9 1 (List.map D.s v12) false)::nn 51 ([])))⟩) ?_ ?_
      ·intro k27 h;revert h;refine sel_if ?_ ?_<;>intro h
       ·obtain ⟨v28,g29,h⟩:=bind_inv h;refine ⟨rfl,geti_b (f:=D.s) g29,?_⟩;refine ⟨rfl,D.s v28,(geti_d (f:=D.s) g29),?_⟩;obtain ⟨v30,g31,h⟩:=bind_inv h;refine ⟨_,_,some [],ref20_insertName_ok g31,?_⟩;exact join_end wk h
       ·exact join_end wk h
      ·rintro v26 h;(conv=>whnf);refine .inr (.inr ?_);obtain ⟨v32,g33,h⟩:=bind_inv h;refine ⟨move_b0 (f:=D.s) g33,rfl,_,part_z0 (f:=D.s) g33,?_⟩;refine ⟨v23.ASNs.length,List.length_map _,?_⟩;revert h;refine cut_join (fun v34=>⟨X::X::AV.ref 2 0::dd 6 (AV.d (D.l 1 D.i v34)::AV.d (D.l 1 D.s v26)::AV.mp 30::AV.own 54 (List.map D.s v32).length::AV.ref 13 0::dd 72 ([])),N::N::some (OB.box (Registry.av a0))::nn 10 (some (OB.box (Set.av v23))::nn 16 (some (OB.map 9 4 (entsD D.s D.b v11))::nn 23 (some (OB.row 9 1 (List.map D.s v32) false)::nn 31 ([]))))⟩) ?_ ?_
       ·intro k35 h;revert h;refine loop_for 56 1 D.i rfl (fun i36 v37=>⟨X::X::AV.ref 2 0::dd 6 (AV.d (D.l 1 D.i v37)::AV.d (D.l 1 D.s v26)::AV.mp 30::AV.own 54 (List.map D.s v32).length::AV.ref 13 0::dd 42 (AV.d (D.l 1 D.i v23.ASNs)::AV.d (D.i (v23.ASNs.length:Int))::AV.d (D.i (i36:Int))::dd 27 ([]))),N::N::some (OB.box (Registry.av a0))::nn 10 (some (OB.box (Set.av v23))::nn 16 (some (OB.map 9 4 (entsD D.s D.b v11))::nn 23 (some (OB.row 9 1 (List.map D.s v32) false)::nn 31 ([]))))⟩) ?_ ?_ ?_
        ·exact wk
        ·rintro v37 K38 h;(conv=>whnf);refine .go ?_;(conv=>whnf);refine sel_f lt_f ?_;exact join_end wk h
        ·rintro next39 i36 x40 v37 K38 hii36 hxi36 hwi36 h hK41;(conv=>whnf);refine .go ?_;(conv=>whnf);refine sel_t (lt_t hii36) ?_;(conv=>whnf);refine .go ?_;refine ⟨idx_b (f:=D.i) hii36,D.i x40,hxi36,rfl,?_⟩;obtain ⟨v42,g43,h⟩:=bind_inv h;refine ⟨_,_,some [],ref20_insert_ok g43,?_⟩;refine ⟨_,hwi36,?_⟩;exact hK41 _ _ wk h
       ·rintro v34 h;refine ⟨v23.Sets.length,List.length_map _,?_⟩;revert h;refine cut_join (fun (v44,v45)=>⟨X::X::AV.ref 2 0::dd 6 (AV.d (D.l 1 D.i v34)::AV.d (D.l 1 D.s v26)::AV.mp 30::AV.own 54 (List.map D.s v45).length::dd 73 ([])),N::N::some (OB.box (Registry.av a0))::nn 27 (some (OB.map 9 4 (entsD D.s D.b v44))::nn 23 (some (OB.row 9 1 (List.map D.s v45) false)::nn 31 ([])))⟩) ?_ ?_
        ·intro k46 h;revert h;refine loop_for 67 1 D.s rfl (fun i47 (v48,v49)=>⟨X::X::AV.ref 2 0::dd 6 (AV.d (D.l 1 D.i v34)::AV.d (D.l 1 D.s v26)::AV.mp 30::AV.own 54 (List.map D.s v49).length::dd 54 (AV.d (D.l 1 D.s v23.Sets)::AV.d (D.i (v23.Sets.length:Int))::AV.d (D.i (i47:Int))::dd 16 ([]))),N::N::some (OB.box (Registry.av a0))::nn 27 (some (OB.map 9 4 (entsD D.s D.b v48))::nn 23 (some (OB.row 9 1 (List.map D.s v49) false)::nn 31 ([])))⟩) ?_ ?_ ?_
         ·exact wk
         ·rintro ⟨v48,v49⟩ K50 h;(conv=>whnf);refine .go ?_;(conv=>whnf);refine sel_f lt_f ?_;exact join_end wk h
         ·rintro next51 i47 x52 ⟨v48,v49⟩ K50 hii47 hxi47 hwi47 h hK53;(conv=>whnf);refine .go ?_;(conv=>whnf);refine sel_t (lt_t hii47) ?_;(conv=>whnf);refine .go ?_;refine ⟨idx_b (f:=D.s) hii47,D.s x52,hxi47,rfl,?_⟩;obtain ⟨v54,g55,h⟩:=bind_inv h;refine ⟨_,mapGet_ok (ek:=D.s) (ev:=D.b) (l:=v48) (k:=x52) keyEq_s,D.b v54,mget_dg (z:=false) rfl g55,_,rfl,?_⟩;revert h;refine cut_join (fun (v56,v57)=>⟨X::X::AV.ref 2 0::dd 6 (AV.d (D.l 1 D.i v34)::AV.d (D.l 1 D.s v26)::AV.mp 30::AV.own 54 (List.map D.s v57).length::dd 54 (AV.d (D.l 1 D.s v23.Sets)::AV.d (D.i (v23.Sets.length:Int))::AV.d (D.i (i47:Int))::dd 16 ([]))),N::N::some (OB.box (Registry.av a0))::nn 27 (some (OB.map 9 4 (entsD D.s D.b v56))::nn 23 (some (OB.row 9 1 (List.map D.s v57) false)::nn 31 ([])))⟩) ?_ ?_
          ·intro k58 h;revert h;refine sel_if ?_ ?_<;>intro h
           ·refine ⟨_,mapSet_ok (ek:=D.s) (ev:=D.b) (l:=v48) (k:=x52) (v:=true) keyEq_s,?_⟩;refine ⟨rfl,?_⟩;obtain ⟨v59,g60,h⟩:=bind_inv h;refine ⟨rfl,apnd_b (f:=D.s) (g:=D.s) g60,_,apnd_z (f:=D.s) g60,?_⟩;exact join_end wk h
           ·exact join_end wk h
          ·rintro ⟨v56,v57⟩ h;refine ⟨_,hwi47,?_⟩;exact hK53 _ _ wk h
        ·rintro ⟨v44,v45⟩ h;exact join_end wk h
     ·rintro ⟨v16,v17,v18,v19⟩ h;exact hK15 _ _ (.swap 54 34 rfl rfl rfl wk) h
    ·exact join_end wk h
   ·rintro ⟨v6,v7⟩ h;cases h;exact ⟨rfl,rfl⟩
theorem ref20_has_ok {a0:List Int} {a1:Int} {r:Bool} (h:ref20_has a0 a1=some r):CallsOK Tryz.prog 151 [AV.d (D.l 1 D.i a0),AV.d (D.i a1)] [] (.d (D.b r)) []:=by
 refine ok Tryz.f151 (by kernel_rfl) (by kernel_rfl) ⟨rfl,?_⟩;unfold ref20_has at h;refine ⟨a0.length,List.length_map _,?_⟩;revert h;refine cut_join (fun _=>⟨dd 17 ([]),nn 17 ([])⟩) ?_ ?_
 ·intro k1 h;revert h;refine loop_for 7 1 D.i rfl (fun i2 _=>⟨X::AV.d (D.i a1)::dd 5 (AV.d (D.l 1 D.i a0)::AV.d (D.i (a0.length:Int))::AV.d (D.i (i2:Int))::dd 7 ([])),nn 17 ([])⟩) ?_ ?_ ?_
  ·exact wk
  ·rintro _ K3 h;(conv=>whnf);refine .go ?_;(conv=>whnf);refine sel_f lt_f ?_;exact join_end wk h
  ·rintro next4 i2 x5 _ K3 hii2 hxi2 hwi2 h hK6;(conv=>whnf);refine .go ?_;(conv=>whnf);refine sel_t (lt_t hii2) ?_;(conv=>whnf);refine .go ?_;refine ⟨idx_b (f:=D.i) hii2,D.i x5,hxi2,rfl,?_⟩;(conv=>whnf);refine .go ?_;revert h;refine sel_if ?_ ?_<;>intro h
   ·cases h;exact ⟨rfl,rfl⟩
   ·refine ⟨_,hwi2,?_⟩;exact hK6 _ _ wk h
 ·rintro _ h;cases h;exact ⟨rfl,rfl⟩
theorem ref20_Permits_ok {a0:List Object} {a1:Prefix} {a2:Int} {r:Int} (h:ref20_Permits a0 a1 a2=some r):CallsOK Tryz.prog 152 [AV.d (D.l 6 Object.toD a0),AV.d (Prefix.toD a1),AV.d (D.i a2)] [] (.d (D.i r)) []:=by
 refine ok Tryz.f152 (by kernel_rfl) (by kernel_rfl) ⟨rfl,?_⟩;unfold ref20_Permits at h;obtain ⟨v1,g2,h⟩:=bind_inv h;refine ⟨_,_,some [],ref02_Valid_ok g2,?_⟩;(conv=>whnf);refine .go ?_;revert h;refine sel_if ?_ ?_<;>intro h
 ·cases h;exact ⟨rfl,rfl⟩
 ·refine ⟨a0.length,List.length_map _,?_⟩;revert h;refine cut_join (fun v3=>⟨dd 7 (AV.d (D.i v3)::dd 32 ([])),nn 40 ([])⟩) ?_ ?_
  ·intro k4 h;revert h;refine loop_for 13 6 Object.toD rfl (fun i5 v6=>⟨X::X::AV.d (D.i a2)::X::AV.ref 4 0::X::X::AV.d (D.i v6)::dd 5 (AV.d (D.l 6 Object.toD a0)::AV.d (D.i (a0.length:Int))::AV.d (D.i (i5:Int))::dd 24 ([])),nn 4 (some (OB.box (Prefix.av a1))::nn 35 ([]))⟩) ?_ ?_ ?_
   ·exact wk
   ·rintro v6 K7 h;(conv=>whnf);refine .go ?_;(conv=>whnf);refine sel_f lt_f ?_;exact join_end wk h
   ·rintro next8 i5 x9 v6 K7 hii5 hxi5 hwi5 h hK10;(conv=>whnf);refine .go ?_;(conv=>whnf);refine sel_t (lt_t hii5) ?_;(conv=>whnf);refine .go ?_;refine ⟨idx_b (f:=Object.toD) hii5,Object.toD x9,hxi5,rfl,?_⟩;(conv=>whnf);refine .go ?_;revert h;refine cut_join (fun v11=>⟨X::X::AV.d (D.i a2)::X::AV.ref 4 0::X::X::AV.d (D.i v11)::dd 5 (AV.d (D.l 6 Object.toD a0)::AV.d (D.i (a0.length:Int))::AV.d (D.i (i5:Int))::dd 24 ([])),nn 4 (some (OB.box (Prefix.av a1))::nn 35 ([]))⟩) ?_ ?_
    ·intro k12 h;revert h;refine sel_if ?_ ?_<;>intro h
     ·exact join_end wk h
     ·obtain ⟨v13,g14,h⟩:=bind_inv h;refine ⟨_,_,some [],ref02_Covers_ok g14,?_⟩;revert h;refine cut_join (fun v15=>⟨X::X::AV.d (D.i a2)::X::AV.ref 4 0::X::X::AV.d (D.i v15)::dd 5 (AV.d (D.l 6 Object.toD a0)::AV.d (D.i (a0.length:Int))::AV.d (D.i (i5:Int))::dd 24 ([])),nn 4 (some (OB.box (Prefix.av a1))::nn 35 ([]))⟩) ?_ ?_
      ·intro k16 h;revert h;refine sel_if ?_ ?_<;>intro h
       ·revert h;refine cut_join (fun v17=>⟨X::X::AV.d (D.i a2)::X::AV.ref 4 0::X::X::AV.d (D.i v17)::dd 5 (AV.d (D.l 6 Object.toD a0)::AV.d (D.i (a0.length:Int))::AV.d (D.i (i5:Int))::dd 24 ([])),nn 4 (some (OB.box (Prefix.av a1))::nn 35 ([]))⟩) ?_ ?_
        ·intro k18 h;revert h;refine sel_if ?_ ?_<;>intro h
         ·exact join_end wk h
         ·exact join_end wk h
        ·rintro v17 h;exact join_end wk h
       ·(conv=>whnf);refine .go ?_;revert h;refine sel_if ?_ ?_<;>intro h
        ·exact join_end wk h
        ·cases h;exact ⟨rfl,rfl⟩
      ·rintro v15 h;exact join_end wk h
    ·rintro v11 h;refine ⟨_,hwi5,?_⟩;exact hK10 _ _ wk h
  ·rintro v3 h;cases h;exact ⟨rfl,rfl⟩
theorem ref20_Cmp_ok {a0:Object} {a1:Object} {r:Int} (h:ref20_Cmp a0 a1=some r):CallsOK Tryz.prog 158 [AV.d (Object.toD a0),AV.d (Object.toD a1)] [] (.d (D.i r)) []:=by
 refine ok Tryz.f158 (by kernel_rfl) (by kernel_rfl) ⟨rfl,?_⟩;unfold ref20_Cmp at h;obtain ⟨v1,g2,h⟩:=bind_inv h;refine ⟨_,_,some [],ref02_Cmp_ok g2,?_⟩;(conv=>whnf);refine .go ?_;revert h;refine sel_if ?_ ?_<;>intro h
 ·cases h;exact ⟨rfl,rfl⟩
 ·(conv=>whnf);refine .go ?_;revert h;refine cut_join (fun v3=>⟨X::X::AV.ref 2 0::AV.ref 3 0::dd 10 (AV.d (D.b v3)::dd 23 ([])),N::N::some (OB.box (Object.av a0))::some (OB.box (Object.av a1))::nn 34 ([])⟩) ?_ ?_
  ·intro k4 h;revert h;refine sel_if ?_ ?_<;>intro h
   ·exact join_end wk h
   ·revert h;refine sel_if ?_ ?_<;>intro h
    ·exact join_end wk h
    ·exact join_end wk h
  ·rintro v3 h;(conv=>whnf);refine .go ?_;revert h;refine sel_if ?_ ?_<;>intro h
   ·cases h;exact ⟨rfl,rfl⟩
   ·(conv=>whnf);refine .go ?_;revert h;refine sel_if ?_ ?_<;>intro h
    ·cases h;exact ⟨rfl,rfl⟩
    ·cases h;exact ⟨rfl,rfl⟩
theorem ref20_Sorted_ok {a0:List Object} {r:(List Object)} (h:ref20_Sorted a0=some r):CallsOK Tryz.prog 157 [AV.d (D.l 6 Object.toD a0)] [] (.d (D.l 6 Object.toD r)) []:=by
 refine ok Tryz.f157 (by kernel_rfl) (by kernel_rfl) ⟨rfl,?_⟩;unfold ref20_Sorted at h;refine ⟨a0.length,List.length_map _,?_⟩;revert h;refine cut_join (fun v1=>⟨X::X::X::AV.own 3 (List.map Object.toD v1).length::dd 49 ([]),N::N::N::some (OB.row 77 6 (List.map Object.toD v1) false)::nn 49 ([])⟩) ?_ ?_
 ·intro k2 h;revert h;refine loop_for 7 6 Object.toD rfl (fun i3 v4=>⟨X::X::X::AV.own 3 (List.map Object.toD v4).length::X::X::X::AV.d (D.l 6 Object.toD a0)::AV.d (D.i (a0.length:Int))::AV.d (D.i (i3:Int))::dd 43 ([]),N::N::N::some (OB.row 77 6 (List.map Object.toD v4) false)::nn 49 ([])⟩) ?_ ?_ ?_
  ·exact wk
  ·rintro v4 K5 h;(conv=>whnf);refine .go ?_;(conv=>whnf);refine sel_f lt_f ?_;exact join_end wk h
  ·rintro next6 i3 x7 v4 K5 hii3 hxi3 hwi3 h hK8;(conv=>whnf);refine .go ?_;(conv=>whnf);refine sel_t (lt_t hii3) ?_;revert h;refine cut_join (fun v9=>⟨X::X::X::AV.own 3 (List.map Object.toD v9).length::X::X::X::AV.d (D.l 6 Object.toD a0)::AV.d (D.i (a0.length:Int))::AV.d (D.i (i3:Int))::dd 43 ([]),N::N::N::some (OB.row 77 6 (List.map Object.toD v9) false)::nn 49 ([])⟩) ?_ ?_
   ·intro k10 h;refine ⟨idx_b (f:=Object.toD) hii3,Object.toD x7,hxi3,rfl,?_⟩;revert h;refine cut_join (fun v11=>⟨X::X::X::AV.own 3 (List.map Object.toD v4).length::X::AV.ref 5 0::AV.d (D.i v11)::AV.d (D.l 6 Object.toD a0)::AV.d (D.i (a0.length:Int))::AV.d (D.i (i3:Int))::dd 43 ([]),N::N::N::some (OB.row 77 6 (List.map Object.toD v4) false)::N::some (OB.box (Object.av x7))::nn 47 ([])⟩) ?_ ?_
    ·intro k12 h;revert h;refine loop_while (fun v13=>⟨X::X::X::AV.own 3 (List.map Object.toD v4).length::X::AV.ref 5 0::AV.d (D.i v13)::AV.d (D.l 6 Object.toD a0)::AV.d (D.i (a0.length:Int))::AV.d (D.i (i3:Int))::dd 43 ([]),N::N::N::some (OB.row 77 6 (List.map Object.toD v4) false)::N::some (OB.box (Object.av x7))::nn 47 ([])⟩) ?_ ?_
     ·exact wk
     rintro next14 v13 K15 h hK16;revert h;refine cut_join (fun v17=>⟨X::X::X::AV.own 3 (List.map Object.toD v4).length::X::AV.ref 5 0::AV.d (D.i v13)::AV.d (D.l 6 Object.toD a0)::AV.d (D.i (a0.length:Int))::AV.d (D.i (i3:Int))::dd 15 (AV.d (D.b v17)::dd 27 ([])),N::N::N::some (OB.row 77 6 (List.map Object.toD v4) false)::N::some (OB.box (Object.av x7))::nn 47 ([])⟩) ?_ ?_
     ·intro k18 h;(conv=>whnf);refine dOB (by kernel_rfl) ?_;refine ⟨v4.length,by first | exact List.length_map _ | rfl | (simp only [List.length_map];omega),?_⟩;revert h;refine sel_if ?_ ?_<;>intro h
      ·obtain ⟨v19,g20,h⟩:=bind_inv h;refine ⟨rfl,geti_b (f:=Object.toD) g20,?_⟩;refine ⟨rfl,Object.toD v19,(geti_d (f:=Object.toD) g20),?_⟩;obtain ⟨v21,g22,h⟩:=bind_inv h;refine ⟨_,_,ref20_Cmp_ok g22,.inl rfl,?_⟩;(conv=>whnf);refine cOB (by kernel_rfl) ?_;exact join_end wk h
      ·(conv=>whnf);refine cOB (by kernel_rfl) ?_;exact join_end wk h
     ·rintro v17 h;(conv=>whnf);refine .go ?_;revert h;refine sel_if ?_ ?_<;>intro h
      ·(conv=>whnf);refine .go ?_;refine ⟨_,rfl,?_⟩;exact hK16 _ _ wk h
      ·exact join_end wk h
    ·rintro v11 h;revert h;refine cut_join (fun v23=>⟨X::X::X::AV.own 3 (List.map Object.toD v4).length::X::AV.ref 5 0::AV.d (D.i v11)::AV.d (D.l 6 Object.toD a0)::AV.d (D.i (a0.length:Int))::AV.d (D.i (i3:Int))::dd 29 (AV.d (D.b v23)::dd 13 ([])),N::N::N::some (OB.row 77 6 (List.map Object.toD v4) false)::N::some (OB.box (Object.av x7))::nn 47 ([])⟩) ?_ ?_
     ·intro k24 h;(conv=>whnf);refine dOB (by kernel_rfl) ?_;refine ⟨v4.length,by first | exact List.length_map _ | rfl | (simp only [List.length_map];omega),?_⟩;revert h;refine sel_if ?_ ?_<;>intro h
      ·obtain ⟨v25,g26,h⟩:=bind_inv h;refine ⟨rfl,geti_b (f:=Object.toD) g26,?_⟩;refine ⟨rfl,Object.toD v25,(geti_d (f:=Object.toD) g26),?_⟩;(conv=>whnf);refine cOB (by kernel_rfl) ?_;exact join_end wk h
      ·(conv=>whnf);refine cOB (by kernel_rfl) ?_;exact join_end wk h
     ·rintro v23 h;(conv=>whnf);refine .go ?_;revert h;refine sel_if ?_ ?_<;>intro h
      ·exact join_end wk h
      ·(conv=>whnf);refine dOB (by kernel_rfl) ?_;(conv=>whnf);refine .inr (.inl ?_);obtain ⟨_,g27,h⟩:=bind_inv h;refine ⟨view_b (f:=Object.toD) g27,rfl,(Int.toNat 0),(Int.toNat v11 - Int.toNat 0),rfl,rfl,?_⟩;refine ⟨(by first | rfl | (simp only [List.length_map,List.length_set];omega)),List.map Object.toD (List.take (Int.toNat v11 - Int.toNat 0) (List.drop (Int.toNat 0) v4)),view_z,?_⟩;obtain ⟨_,g28,h⟩:=bind_inv h;refine ⟨apnd_b0 (g:=Object.toD) g28,?_⟩;refine ⟨rfl,?_⟩;obtain ⟨v29,g30,h⟩:=bind_inv h;refine ⟨rfl,apnd_b (f:=Object.toD) (g:=Object.toD) g30,_,apnd_z (f:=Object.toD) g30,?_⟩;(conv=>whnf);refine .inr (.inl ?_);obtain ⟨_,g31,h⟩:=bind_inv h;refine ⟨view_b0 (f:=Object.toD) g31,rfl,(Int.toNat v11),(Int.toNat (v4.length:Int) - Int.toNat v11),rfl,(by rw [List.length_map]),?_⟩;refine ⟨(by first | rfl | (simp only [List.length_map,List.length_set];omega)),List.map Object.toD (List.take (Int.toNat (v4.length:Int) - Int.toNat v11) (List.drop (Int.toNat v11) v4)),view_z,?_⟩;obtain ⟨v32,g33,h⟩:=bind_inv h;refine ⟨rfl,apnd_b (f:=Object.toD) (g:=Object.toD) g33,_,apnd_z (f:=Object.toD) g33,?_⟩;(conv=>whnf);refine cOB (by kernel_rfl) ?_;exact join_end (.swap 43 3 rfl rfl rfl wk) h
   ·rintro v9 h;refine ⟨_,hwi3,?_⟩;exact hK8 _ _ wk h
 ·rintro v1 h;(conv=>whnf);refine .inl ?_;refine ⟨rfl,?_⟩;cases h;exact ⟨rfl,rfl⟩
theorem ref20_Own_ok {a0:Registry} {a1:List Int} {r:(List Object)} (h:ref20_Own a0 a1=some r):CallsOK Tryz.prog 153 [AV.d (Registry.toD a0),AV.d (D.l 1 D.i a1)] [] (.d (D.l 6 Object.toD r)) []:=by
 refine ok Tryz.f153 (by kernel_rfl) (by kernel_rfl) ⟨rfl,?_⟩;unfold ref20_Own at h;refine ⟨a0.Objects.length,List.length_map _,?_⟩;revert h;refine cut_join (fun v1=>⟨dd 5 (AV.own 5 (List.map Object.toD v1).length::dd 20 ([])),nn 5 (some (OB.row 77 6 (List.map Object.toD v1) false)::nn 20 ([]))⟩) ?_ ?_
 ·intro k2 h;revert h;refine loop_for 9 6 Object.toD rfl (fun i3 v4=>⟨X::AV.d (D.l 1 D.i a1)::X::X::X::AV.own 5 (List.map Object.toD v4).length::X::X::X::AV.d (D.l 6 Object.toD a0.Objects)::AV.d (D.i (a0.Objects.length:Int))::AV.d (D.i (i3:Int))::dd 14 ([]),nn 5 (some (OB.row 77 6 (List.map Object.toD v4) false)::nn 20 ([]))⟩) ?_ ?_ ?_
  ·exact wk
  ·rintro v4 K5 h;(conv=>whnf);refine .go ?_;(conv=>whnf);refine sel_f lt_f ?_;exact join_end wk h
  ·rintro next6 i3 x7 v4 K5 hii3 hxi3 hwi3 h hK8;(conv=>whnf);refine .go ?_;(conv=>whnf);refine sel_t (lt_t hii3) ?_;(conv=>whnf);refine .go ?_;refine ⟨idx_b (f:=Object.toD) hii3,Object.toD x7,hxi3,rfl,?_⟩;obtain ⟨v9,g10,h⟩:=bind_inv h;refine ⟨_,_,some [],ref20_has_ok g10,?_⟩;revert h;refine cut_join (fun v11=>⟨X::AV.d (D.l 1 D.i a1)::X::X::X::AV.own 5 (List.map Object.toD v11).length::X::X::X::AV.d (D.l 6 Object.toD a0.Objects)::AV.d (D.i (a0.Objects.length:Int))::AV.d (D.i (i3:Int))::dd 14 ([]),nn 5 (some (OB.row 77 6 (List.map Object.toD v11) false)::nn 20 ([]))⟩) ?_ ?_
   ·intro k12 h;revert h;refine sel_if ?_ ?_<;>intro h
    ·refine ⟨rfl,?_⟩;obtain ⟨v13,g14,h⟩:=bind_inv h;refine ⟨rfl,apnd_b (f:=Object.toD) (g:=Object.toD) g14,_,apnd_z (f:=Object.toD) g14,?_⟩;exact join_end wk h
    ·exact join_end wk h
   ·rintro v11 h;refine ⟨_,hwi3,?_⟩;exact hK8 _ _ wk h
 ·rintro v1 h;refine ⟨rfl,?_⟩;obtain ⟨v15,g16,h⟩:=bind_inv h;refine ⟨_,_,some [],ref20_Sorted_ok g16,?_⟩;cases h;exact ⟨rfl,rfl⟩
theorem ref20_Permitted_ok {a0:Registry} {a1:Int} {a2:ByteArray} {a3:Prefix} {a4:Int} {r:Int} (h:ref20_Permitted a0 a1 a2 a3 a4=some r):CallsOK Tryz.prog 138 [AV.d (Registry.toD a0),AV.d (D.i a1),AV.d (D.s a2),AV.d (Prefix.toD a3),AV.d (D.i a4)] [] (.d (D.i r)) []:=by
 refine ok Tryz.f138 (by kernel_rfl) (by kernel_rfl) ⟨rfl,?_⟩;unfold ref20_Permitted at h;obtain ⟨v1,g2,h⟩:=bind_inv h;refine ⟨_,_,some [],ref20_Valid_ok g2,?_⟩;(conv=>whnf);refine .go ?_;revert h;refine sel_if ?_ ?_<;>intro h
 ·cases h;exact ⟨rfl,rfl⟩
 ·revert h;refine cut_join (fun v3=>⟨dd 4 (AV.d (D.i a4)::AV.ref 5 0::X::X::AV.ref 8 0::X::X::AV.own 19 (List.map D.i v3).length::dd 33 ([])),nn 5 (some (OB.box (Registry.av a0))::N::N::some (OB.box (Prefix.av a3))::nn 10 (some (OB.row 3 1 (List.map D.i v3) false)::nn 25 ([])))⟩) ?_ ?_
  ·intro k4 h;revert h;refine sel_if ?_ ?_<;>intro h
   ·obtain ⟨⟨v5,v6,v7⟩,g8,h⟩:=bind_inv h;refine ⟨_,_,some [],ref20_Expand_ok g8,?_⟩;(conv=>whnf);refine .go ?_;revert h;refine sel_if ?_ ?_<;>intro h
    ·cases h;exact ⟨rfl,rfl⟩
    ·obtain ⟨v9,g10,h⟩:=bind_inv h;refine ⟨rfl,apnd_b (f:=D.i) (g:=D.i) g10,_,apnd_z (f:=D.i) g10,?_⟩;exact join_end wk h
   ·exact join_end wk h
  ·rintro v3 h;refine ⟨rfl,?_⟩;obtain ⟨v11,g12,h⟩:=bind_inv h;refine ⟨_,_,none,ref20_has_ok g12,?_⟩;(conv=>whnf);refine .go ?_;revert h;refine sel_if ?_ ?_<;>intro h
   ·cases h;exact ⟨rfl,rfl⟩
   ·(conv=>whnf);refine dOB (by kernel_rfl) ?_;refine ⟨rfl,?_⟩;obtain ⟨v13,g14,h⟩:=bind_inv h;refine ⟨_,_,ref20_Own_ok g14,.inl rfl,?_⟩;obtain ⟨v15,g16,h⟩:=bind_inv h;refine ⟨_,_,ref20_Permits_ok g16,.inl rfl,?_⟩;(conv=>whnf);refine cOB (by kernel_rfl) ?_;cases h;exact ⟨rfl,rfl⟩
theorem ref22_State_ok {a0:List Object} {a1:Prefix} {a2:Int} {r:Int×(List Object)} (h:ref22_State a0 a1 a2=some r):CallsOK Tryz.prog 139 [AV.d (D.l 6 Object.toD a0),AV.d (Prefix.toD a1),AV.d (D.i a2)] [] (.tup [.d (D.i r.1),.d (D.l 6 Object.toD r.2)]) []:=by
 refine ok Tryz.f139 (by kernel_rfl) (by kernel_rfl) ⟨rfl,?_⟩;unfold ref22_State at h;refine ⟨a0.length,List.length_map _,?_⟩;revert h;refine cut_join (fun (v1,v2)=>⟨dd 8 (AV.d (D.i v1)::AV.own 9 (List.map Object.toD v2).length::dd 37 ([])),nn 9 (some (OB.row 77 6 (List.map Object.toD v2) false)::nn 37 ([]))⟩) ?_ ?_
 ·intro k3 h;revert h;refine loop_for 12 6 Object.toD rfl (fun i4 (v5,v6)=>⟨X::X::AV.d (D.i a2)::X::AV.ref 4 0::X::X::X::AV.d (D.i v5)::AV.own 9 (List.map Object.toD v6).length::X::X::AV.d (D.l 6 Object.toD a0)::AV.d (D.i (a0.length:Int))::AV.d (D.i (i4:Int))::dd 32 ([]),nn 4 (some (OB.box (Prefix.av a1))::nn 4 (some (OB.row 77 6 (List.map Object.toD v6) false)::nn 37 ([])))⟩) ?_ ?_ ?_
  ·exact wk
  ·rintro ⟨v5,v6⟩ K7 h;(conv=>whnf);refine .go ?_;(conv=>whnf);refine sel_f lt_f ?_;exact join_end wk h
  ·rintro next8 i4 x9 ⟨v5,v6⟩ K7 hii4 hxi4 hwi4 h hK10;(conv=>whnf);refine .go ?_;(conv=>whnf);refine sel_t (lt_t hii4) ?_;revert h;refine cut_join (fun (v11,v12)=>⟨X::X::AV.d (D.i a2)::X::AV.ref 4 0::X::X::X::AV.d (D.i v11)::AV.own 9 (List.map Object.toD v12).length::X::X::AV.d (D.l 6 Object.toD a0)::AV.d (D.i (a0.length:Int))::AV.d (D.i (i4:Int))::dd 32 ([]),nn 4 (some (OB.box (Prefix.av a1))::nn 4 (some (OB.row 77 6 (List.map Object.toD v12) false)::nn 37 ([])))⟩) ?_ ?_
   ·intro k13 h;refine ⟨idx_b (f:=Object.toD) hii4,Object.toD x9,hxi4,rfl,?_⟩;obtain ⟨v14,g15,h⟩:=bind_inv h;refine ⟨_,_,some [],ref02_Covers_ok g15,?_⟩;(conv=>whnf);refine .go ?_;revert h;refine sel_if ?_ ?_<;>intro h
    ·exact join_end wk h
    ·refine ⟨rfl,?_⟩;obtain ⟨v16,g17,h⟩:=bind_inv h;refine ⟨rfl,apnd_b (f:=Object.toD) (g:=Object.toD) g17,_,apnd_z (f:=Object.toD) g17,?_⟩;revert h;refine cut_join (fun v18=>⟨X::X::AV.d (D.i a2)::X::AV.ref 4 0::X::X::X::AV.d (D.i v18)::AV.own 9 (List.map Object.toD v16).length::X::AV.ref 11 0::AV.d (D.l 6 Object.toD a0)::AV.d (D.i (a0.length:Int))::AV.d (D.i (i4:Int))::dd 32 ([]),nn 4 (some (OB.box (Prefix.av a1))::nn 4 (some (OB.row 77 6 (List.map Object.toD v16) false)::N::some (OB.box (Object.av x9))::nn 35 ([])))⟩) ?_ ?_
     ·intro k19 h;revert h;refine sel_if ?_ ?_<;>intro h
      ·exact join_end wk h
      ·exact join_end wk h
     ·rintro v18 h;revert h;refine cut_join (fun v20=>⟨X::X::AV.d (D.i a2)::X::AV.ref 4 0::X::X::X::AV.d (D.i v18)::AV.own 9 (List.map Object.toD v16).length::X::X::AV.d (D.l 6 Object.toD a0)::AV.d (D.i (a0.length:Int))::AV.d (D.i (i4:Int))::dd 28 (AV.d (D.b v20)::X::X::X::[]),nn 4 (some (OB.box (Prefix.av a1))::nn 4 (some (OB.row 77 6 (List.map Object.toD v16) false)::nn 37 ([])))⟩) ?_ ?_
      ·intro k21 h;revert h;refine sel_if ?_ ?_<;>intro h
       ·revert h;refine sel_if ?_ ?_<;>intro h
        ·exact join_end wk h
        ·exact join_end wk h
       ·exact join_end wk h
      ·rintro v20 h;revert h;refine cut_join (fun v22=>⟨X::X::AV.d (D.i a2)::X::AV.ref 4 0::X::X::X::AV.d (D.i v22)::AV.own 9 (List.map Object.toD v16).length::X::X::AV.d (D.l 6 Object.toD a0)::AV.d (D.i (a0.length:Int))::AV.d (D.i (i4:Int))::dd 32 ([]),nn 4 (some (OB.box (Prefix.av a1))::nn 4 (some (OB.row 77 6 (List.map Object.toD v16) false)::nn 37 ([])))⟩) ?_ ?_
       ·intro k23 h;revert h;refine sel_if ?_ ?_<;>intro h
        ·exact join_end wk h
        ·exact join_end wk h
       ·rintro v22 h;exact join_end wk h
   ·rintro ⟨v11,v12⟩ h;refine ⟨_,hwi4,?_⟩;exact hK10 _ _ wk h
 ·rintro ⟨v1,v2⟩ h;(conv=>whnf);refine .inl ?_;refine ⟨rfl,?_⟩;cases h;exact ⟨rfl,rfl⟩
end Go.AX.Q35
end
section
namespace Go.AX.Q35
open Go Go.AX Go.Proofs
set_option maxRecDepth 100000
set_option maxHeartbeats 4000000
set_option linter.unusedVariables false
theorem ref24_All_ok {a0:Filter} {a1:Peer} {a2:Route} {r:(List Int)} (h:ref24_All a0 a1 a2=some r):CallsOK Tryz.prog 112 [AV.d (Filter.toD a0),AV.d (Peer.toD a1),AV.d (Route.toD a2)] [] (.d (D.l 1 D.i r)) []:=by
 refine ok Tryz.f112 (by kernel_rfl) (by kernel_rfl) ⟨rfl,?_⟩;unfold ref24_All at h;obtain ⟨v1,g2,h⟩:=bind_inv h;refine ⟨_,_,some [],ref24_ill_ok g2,?_⟩;(conv=>whnf);refine .go ?_;revert h;refine sel_if ?_ ?_<;>intro h
 ·(conv=>whnf);refine .inl ?_;refine ⟨rfl,?_⟩;cases h;exact ⟨rfl,rfl⟩
 ·obtain ⟨v3,g4,h⟩:=bind_inv h;refine ⟨_,_,some [27],ref24_pathed_ok g4,?_⟩;refine ⟨a0.LANs.length,List.length_map _,?_⟩;revert h;refine cut_join (fun v5=>⟨X::X::X::AV.ref 3 0::AV.ref 4 0::AV.ref 5 0::X::AV.own 27 (List.map D.i v3).length::AV.d (D.b v5)::AV.d (D.b false)::dd 117 ([]),N::N::N::some (OB.box (Filter.av a0))::some (OB.box (Peer.av a1))::some (OB.box (Route.av a2))::nn 21 (some (OB.row 3 1 (List.map D.i v3) false)::nn 99 ([]))⟩) ?_ ?_
  ·intro k6 h;revert h;refine loop_for 29 4 Prefix.toD rfl (fun i7 v8=>⟨X::X::X::AV.ref 3 0::AV.ref 4 0::AV.ref 5 0::X::AV.own 27 (List.map D.i v3).length::AV.d (D.b v8)::AV.d (D.b false)::dd 19 (AV.d (D.l 4 Prefix.toD a0.LANs)::AV.d (D.i (a0.LANs.length:Int))::AV.d (D.i (i7:Int))::dd 95 ([])),N::N::N::some (OB.box (Filter.av a0))::some (OB.box (Peer.av a1))::some (OB.box (Route.av a2))::nn 21 (some (OB.row 3 1 (List.map D.i v3) false)::nn 99 ([]))⟩) ?_ ?_ ?_
   ·exact wk
   ·rintro v8 K9 h;(conv=>whnf);refine .go ?_;(conv=>whnf);refine sel_f lt_f ?_;exact join_end wk h
   ·rintro next10 i7 x11 v8 K9 hii7 hxi7 hwi7 h hK12;(conv=>whnf);refine .go ?_;(conv=>whnf);refine sel_t (lt_t hii7) ?_;(conv=>whnf);refine .go ?_;refine ⟨idx_b (f:=Prefix.toD) hii7,Prefix.toD x11,hxi7,rfl,?_⟩;revert h;refine cut_join (fun v13=>⟨X::X::X::AV.ref 3 0::AV.ref 4 0::AV.ref 5 0::X::AV.own 27 (List.map D.i v3).length::AV.d (D.b v13)::AV.d (D.b false)::dd 19 (AV.d (D.l 4 Prefix.toD a0.LANs)::AV.d (D.i (a0.LANs.length:Int))::AV.d (D.i (i7:Int))::dd 95 ([])),N::N::N::some (OB.box (Filter.av a0))::some (OB.box (Peer.av a1))::some (OB.box (Route.av a2))::nn 21 (some (OB.row 3 1 (List.map D.i v3) false)::nn 99 ([]))⟩) ?_ ?_
    ·intro k14 h;revert h;refine sel_if ?_ ?_<;>intro h
     ·exact join_end wk h
     ·obtain ⟨v15,g16,h⟩:=bind_inv h;refine ⟨_,_,some [],ref02_Covers_ok g16,?_⟩;revert h;refine sel_if ?_ ?_<;>intro h
      ·exact join_end wk h
      ·obtain ⟨v17,g18,h⟩:=bind_inv h;refine ⟨_,_,some [],ref02_Covers_ok g18,?_⟩;exact join_end wk h
    ·rintro v13 h;refine ⟨_,hwi7,?_⟩;exact hK12 _ _ wk h
  ·rintro v5 h;refine ⟨a0.Bogons.length,List.length_map _,?_⟩;revert h;refine cut_join (fun v19=>⟨X::X::X::AV.ref 3 0::AV.ref 4 0::AV.ref 5 0::X::AV.own 27 (List.map D.i v3).length::AV.d (D.b v5)::AV.d (D.b v19)::dd 117 ([]),N::N::N::some (OB.box (Filter.av a0))::some (OB.box (Peer.av a1))::some (OB.box (Route.av a2))::nn 21 (some (OB.row 3 1 (List.map D.i v3) false)::nn 99 ([]))⟩) ?_ ?_
   ·intro k20 h;revert h;refine loop_for 50 4 Prefix.toD rfl (fun i21 v22=>⟨X::X::X::AV.ref 3 0::AV.ref 4 0::AV.ref 5 0::X::AV.own 27 (List.map D.i v3).length::AV.d (D.b v5)::AV.d (D.b v22)::dd 40 (AV.d (D.l 4 Prefix.toD a0.Bogons)::AV.d (D.i (a0.Bogons.length:Int))::AV.d (D.i (i21:Int))::dd 74 ([])),N::N::N::some (OB.box (Filter.av a0))::some (OB.box (Peer.av a1))::some (OB.box (Route.av a2))::nn 21 (some (OB.row 3 1 (List.map D.i v3) false)::nn 99 ([]))⟩) ?_ ?_ ?_
    ·exact wk
    ·rintro v22 K23 h;(conv=>whnf);refine .go ?_;(conv=>whnf);refine sel_f lt_f ?_;exact join_end wk h
    ·rintro next24 i21 x25 v22 K23 hii21 hxi21 hwi21 h hK26;(conv=>whnf);refine .go ?_;(conv=>whnf);refine sel_t (lt_t hii21) ?_;(conv=>whnf);refine .go ?_;refine ⟨idx_b (f:=Prefix.toD) hii21,Prefix.toD x25,hxi21,rfl,?_⟩;revert h;refine cut_join (fun v27=>⟨X::X::X::AV.ref 3 0::AV.ref 4 0::AV.ref 5 0::X::AV.own 27 (List.map D.i v3).length::AV.d (D.b v5)::AV.d (D.b v27)::dd 40 (AV.d (D.l 4 Prefix.toD a0.Bogons)::AV.d (D.i (a0.Bogons.length:Int))::AV.d (D.i (i21:Int))::dd 74 ([])),N::N::N::some (OB.box (Filter.av a0))::some (OB.box (Peer.av a1))::some (OB.box (Route.av a2))::nn 21 (some (OB.row 3 1 (List.map D.i v3) false)::nn 99 ([]))⟩) ?_ ?_
     ·intro k28 h;revert h;refine sel_if ?_ ?_<;>intro h
      ·exact join_end wk h
      ·obtain ⟨v29,g30,h⟩:=bind_inv h;refine ⟨_,_,some [],ref02_Covers_ok g30,?_⟩;exact join_end wk h
     ·rintro v27 h;refine ⟨_,hwi21,?_⟩;exact hK26 _ _ wk h
   ·rintro v19 h;revert h;refine cut_join (fun v31=>⟨X::X::X::AV.ref 3 0::AV.ref 4 0::AV.ref 5 0::X::AV.own 27 (List.map D.i v31).length::X::AV.d (D.b v19)::dd 117 ([]),N::N::N::some (OB.box (Filter.av a0))::some (OB.box (Peer.av a1))::some (OB.box (Route.av a2))::nn 21 (some (OB.row 3 1 (List.map D.i v31) false)::nn 99 ([]))⟩) ?_ ?_
    ·intro k32 h;revert h;refine sel_if ?_ ?_<;>intro h
     ·refine ⟨rfl,?_⟩;obtain ⟨v33,g34,h⟩:=bind_inv h;refine ⟨rfl,apnd_b (f:=D.i) (g:=D.i) g34,_,apnd_z (f:=D.i) g34,?_⟩;exact join_end wk h
     ·exact join_end wk h
    ·rintro v31 h;revert h;refine cut_join (fun v35=>⟨X::X::X::AV.ref 3 0::AV.ref 4 0::AV.ref 5 0::X::AV.own 27 (List.map D.i v35).length::dd 119 ([]),N::N::N::some (OB.box (Filter.av a0))::some (OB.box (Peer.av a1))::some (OB.box (Route.av a2))::nn 21 (some (OB.row 3 1 (List.map D.i v35) false)::nn 99 ([]))⟩) ?_ ?_
     ·intro k36 h;revert h;refine sel_if ?_ ?_<;>intro h
      ·refine ⟨rfl,?_⟩;obtain ⟨v37,g38,h⟩:=bind_inv h;refine ⟨rfl,apnd_b (f:=D.i) (g:=D.i) g38,_,apnd_z (f:=D.i) g38,?_⟩;exact join_end wk h
      ·exact join_end wk h
     ·rintro v35 h;obtain ⟨v39,g40,h⟩:=bind_inv h;refine ⟨_,_,some [],ref24_long_ok g40,?_⟩;revert h;refine cut_join (fun v41=>⟨X::X::X::AV.ref 3 0::AV.ref 4 0::AV.ref 5 0::X::AV.own 27 (List.map D.i v41).length::dd 119 ([]),N::N::N::some (OB.box (Filter.av a0))::some (OB.box (Peer.av a1))::some (OB.box (Route.av a2))::nn 21 (some (OB.row 3 1 (List.map D.i v41) false)::nn 99 ([]))⟩) ?_ ?_
      ·intro k42 h;revert h;refine sel_if ?_ ?_<;>intro h
       ·refine ⟨rfl,?_⟩;obtain ⟨v43,g44,h⟩:=bind_inv h;refine ⟨rfl,apnd_b (f:=D.i) (g:=D.i) g44,_,apnd_z (f:=D.i) g44,?_⟩;exact join_end wk h
       ·exact join_end wk h
      ·rintro v41 h;(conv=>whnf);refine dOB (by kernel_rfl) ?_;(conv=>whnf);refine cOB (by kernel_rfl) ?_;obtain ⟨v45,g46,h⟩:=bind_inv h;refine ⟨_,_,some [],ref24_Hole_ok g46,?_⟩;revert h;refine cut_join (fun (v47,v48)=>⟨dd 4 (AV.ref 4 0::AV.ref 5 0::X::AV.own 27 (List.map D.i v41).length::dd 6 (AV.ref 14 0::AV.d (D.l 6 Object.toD v47)::dd 111 ([]))),nn 4 (some (OB.box (Peer.av a1))::some (OB.box (Route.av a2))::nn 8 (some (OB.box [AV.d (D.l 3 Set.toD a0.Registry.Sets),AV.d (D.l 6 Object.toD v48)])::nn 12 (some (OB.row 3 1 (List.map D.i v41) false)::nn 99 ([]))))⟩) ?_ ?_
       ·intro k49 h;revert h;refine sel_if ?_ ?_<;>intro h
        ·obtain ⟨v50,g51,h⟩:=bind_inv h;refine ⟨_,_,some [],ref24_Widen_ok g51,?_⟩;obtain ⟨v52,g53,h⟩:=bind_inv h;refine ⟨_,_,some [],ref24_Widen_ok g53,?_⟩;exact join_end wk h
        ·exact join_end wk h
       ·rintro ⟨v47,v48⟩ h;obtain ⟨⟨v54,v55⟩,g56,h⟩:=bind_inv h;refine ⟨_,_,some [],ref15_Origin_ok g56,?_⟩;revert h;refine cut_join (fun v57=>⟨dd 4 (AV.ref 4 0::AV.ref 5 0::X::AV.own 27 (List.map D.i v41).length::dd 6 (AV.ref 14 0::AV.d (D.l 6 Object.toD v47)::AV.d (D.i v57)::dd 110 ([]))),nn 4 (some (OB.box (Peer.av a1))::some (OB.box (Route.av a2))::nn 8 (some (OB.box [AV.d (D.l 3 Set.toD a0.Registry.Sets),AV.d (D.l 6 Object.toD v48)])::nn 12 (some (OB.row 3 1 (List.map D.i v41) false)::nn 99 ([]))))⟩) ?_ ?_
        ·intro k58 h;revert h;refine sel_if ?_ ?_<;>intro h
         ·exact join_end wk h
         ·exact join_end wk h
        ·rintro v57 h;obtain ⟨v59,g60,h⟩:=bind_inv h;refine ⟨_,_,some [],ref20_Permitted_ok g60,?_⟩;revert h;refine cut_join (fun v61=>⟨dd 5 (AV.ref 5 0::X::AV.own 27 (List.map D.i v61).length::dd 7 (AV.d (D.l 6 Object.toD v47)::AV.d (D.i v57)::dd 110 ([]))),nn 5 (some (OB.box (Route.av a2))::nn 21 (some (OB.row 3 1 (List.map D.i v61) false)::nn 99 ([])))⟩) ?_ ?_
         ·intro k62 h;revert h;refine sel_if ?_ ?_<;>intro h
          ·refine ⟨rfl,?_⟩;obtain ⟨v63,g64,h⟩:=bind_inv h;refine ⟨rfl,apnd_b (f:=D.i) (g:=D.i) g64,_,apnd_z (f:=D.i) g64,?_⟩;exact join_end wk h
          ·exact join_end wk h
         ·rintro v61 h;obtain ⟨⟨v65,v66⟩,g67,h⟩:=bind_inv h;refine ⟨_,_,some [],ref22_State_ok g67,?_⟩;revert h;refine cut_join (fun v68=>⟨dd 7 (AV.own 27 (List.map D.i v68).length::dd 119 ([])),nn 27 (some (OB.row 3 1 (List.map D.i v68) false)::nn 99 ([]))⟩) ?_ ?_
          ·intro k69 h;revert h;refine sel_if ?_ ?_<;>intro h
           ·refine ⟨rfl,?_⟩;obtain ⟨v70,g71,h⟩:=bind_inv h;refine ⟨rfl,apnd_b (f:=D.i) (g:=D.i) g71,_,apnd_z (f:=D.i) g71,?_⟩;exact join_end wk h
           ·exact join_end wk h
          ·rintro v68 h;(conv=>whnf);refine .inl ?_;refine ⟨rfl,?_⟩;cases h;exact ⟨rfl,rfl⟩
theorem ref24_Check_ok {a0:Filter} {a1:Peer} {a2:Route} {r:Int} (h:ref24_Check a0 a1 a2=some r):CallsOK Tryz.prog 90 [AV.d (Filter.toD a0),AV.d (Peer.toD a1),AV.d (Route.toD a2)] [] (.d (D.i r)) []:=by
 refine ok Tryz.f90 (by kernel_rfl) (by kernel_rfl) ⟨rfl,?_⟩;unfold ref24_Check at h;obtain ⟨v1,g2,h⟩:=bind_inv h;refine ⟨_,_,some [],ref24_All_ok g2,?_⟩;refine ⟨v1.length,List.length_map _,?_⟩;(conv=>whnf);refine .go ?_;revert h;refine sel_if ?_ ?_<;>intro h
 ·obtain ⟨v3,g4,h⟩:=bind_inv h;refine ⟨geti_b (f:=D.i) g4,D.i v3,geti_d (f:=D.i) g4,rfl,?_⟩;cases h;exact ⟨rfl,rfl⟩
 ·cases h;exact ⟨rfl,rfl⟩
theorem ref25_settle_ok {a0:RIB} {r:RIB} (h:ref25_settle a0=some r):CallsOK Tryz.prog 92 [AV.d (RIB.toD a0)] [] (.d (RIB.toD r)) []:=by
 refine ok Tryz.f92 (by kernel_rfl) (by kernel_rfl) ⟨rfl,?_⟩;unfold ref25_settle at h;refine ⟨a0.Held.length,List.length_map _,?_⟩;revert h;refine cut_join (fun _=>⟨X::AV.ref 1 0::AV.ref 2 0::dd 15 ([]),N::some (OB.box (RIB.av a0))::some (OB.box RIB.zv)::nn 15 ([])⟩) ?_ ?_
 ·intro k1 h;revert h;refine loop_for 6 18 Held.toD rfl (fun i2 _=>⟨X::AV.ref 1 0::AV.ref 2 0::X::X::X::AV.d (D.l 18 Held.toD a0.Held)::AV.d (D.i (a0.Held.length:Int))::AV.d (D.i (i2:Int))::dd 9 ([]),N::some (OB.box (RIB.av a0))::some (OB.box RIB.zv)::nn 15 ([])⟩) ?_ ?_ ?_
  ·exact wk
  ·rintro _ K3 h;(conv=>whnf);refine .go ?_;(conv=>whnf);refine sel_f lt_f ?_;exact join_end wk h
  ·rintro next4 i2 x5 _ K3 hii2 hxi2 hwi2 h hK6;(conv=>whnf);refine .go ?_;(conv=>whnf);refine sel_t (lt_t hii2) ?_;(conv=>whnf);refine .go ?_;refine ⟨idx_b (f:=Held.toD) hii2,Held.toD x5,hxi2,rfl,?_⟩;(conv=>whnf);refine .go ?_;revert h;refine sel_if ?_ ?_<;>intro h
   ·cases h;exact ⟨rfl,rfl⟩
   ·refine ⟨_,hwi2,?_⟩;exact hK6 _ _ wk h
 ·rintro _ h;cases h;exact ⟨rfl,rfl⟩
theorem ref25_Apply_ok {a0:Filter} {a1:RIB} {a2:Update} {r:RIB×Int} (h:ref25_Apply a0 a1 a2=some r):CallsOK Tryz.prog 61 [AV.d (Filter.toD a0),AV.d (RIB.toD a1),AV.d (Update.toD a2)] [] (.tup [.d (RIB.toD r.1),.d (D.i r.2)]) []:=by
 refine ok Tryz.f61 (by kernel_rfl) (by kernel_rfl) ⟨rfl,?_⟩;unfold ref25_Apply at h;revert h;refine cut_join (fun v1=>⟨X::X::X::AV.ref 3 0::AV.ref 4 0::AV.ref 5 0::AV.ref 6 0::dd 25 (AV.d (D.b v1)::dd 104 ([])),N::N::N::some (OB.box (Filter.av a0))::some (OB.box (RIB.av a1))::some (OB.box (Update.av a2))::some (OB.box RIB.zv)::nn 130 ([])⟩) ?_ ?_
 ·intro k2 h;obtain ⟨v3,g4,h⟩:=bind_inv h;refine ⟨_,_,some [],ref24_Valid_ok g4,?_⟩;revert h;refine sel_if ?_ ?_<;>intro h
  ·exact join_end wk h
  ·obtain ⟨v5,g6,h⟩:=bind_inv h;refine ⟨_,_,some [],ref25_Valid_ok g6,?_⟩;revert h;refine sel_if ?_ ?_<;>intro h
   ·exact join_end wk h
   ·obtain ⟨v7,g8,h⟩:=bind_inv h;refine ⟨_,_,some [],ref19_Valid_ok g8,?_⟩;exact join_end wk h
 ·rintro v1 h;(conv=>whnf);refine .go ?_;revert h;refine sel_if ?_ ?_<;>intro h
  ·cases h;exact ⟨rfl,rfl⟩
  ·(conv=>whnf);refine .go ?_;revert h;refine sel_if ?_ ?_<;>intro h
   ·cases h;exact ⟨rfl,rfl⟩
   ·obtain ⟨v9,g10,h⟩:=bind_inv h;refine ⟨_,_,some [39],ref25_Copy_ok g10,?_⟩;refine ⟨a2.Withdraw.length,List.length_map _,?_⟩;revert h;refine cut_join (fun v11=>⟨X::X::X::AV.ref 3 0::AV.ref 4 0::AV.ref 5 0::AV.ref 6 0::X::AV.ref 8 0::dd 128 ([]),N::N::N::some (OB.box (Filter.av a0))::some (OB.box (RIB.av a1))::some (OB.box (Update.av a2))::some (OB.box RIB.zv)::N::some (OB.box [AV.d (D.i v9.Peer.ASN),AV.d (D.s v9.Peer.Set),AV.d (D.i v9.Peer.Max4),AV.d (D.i v9.Peer.Max6),AV.d (D.l 3 Addr.toD v9.Peer.Nexts),AV.d (D.b v9.Up),AV.own 39 (List.map Held.toD v11).length,AV.d (D.i v9.Until)])::nn 30 (some (OB.row 101 18 (List.map Held.toD v11) false)::nn 97 ([]))⟩) ?_ ?_
    ·intro k12 h;revert h;refine loop_for 41 4 Prefix.toD rfl (fun i13 v14=>⟨X::X::X::AV.ref 3 0::AV.ref 4 0::AV.ref 5 0::AV.ref 6 0::X::AV.ref 8 0::dd 32 (AV.d (D.l 4 Prefix.toD a2.Withdraw)::AV.d (D.i (a2.Withdraw.length:Int))::AV.d (D.i (i13:Int))::dd 93 ([])),N::N::N::some (OB.box (Filter.av a0))::some (OB.box (RIB.av a1))::some (OB.box (Update.av a2))::some (OB.box RIB.zv)::N::some (OB.box [AV.d (D.i v9.Peer.ASN),AV.d (D.s v9.Peer.Set),AV.d (D.i v9.Peer.Max4),AV.d (D.i v9.Peer.Max6),AV.d (D.l 3 Addr.toD v9.Peer.Nexts),AV.d (D.b v9.Up),AV.own 39 (List.map Held.toD v14).length,AV.d (D.i v9.Until)])::nn 30 (some (OB.row 101 18 (List.map Held.toD v14) false)::nn 97 ([]))⟩) ?_ ?_ ?_
     ·exact wk
     ·rintro v14 K15 h;(conv=>whnf);refine .go ?_;(conv=>whnf);refine sel_f lt_f ?_;exact join_end wk h
     ·rintro next16 i13 x17 v14 K15 hii13 hxi13 hwi13 h hK18;(conv=>whnf);refine .go ?_;(conv=>whnf);refine sel_t (lt_t hii13) ?_;(conv=>whnf);refine .go ?_;refine ⟨idx_b (f:=Prefix.toD) hii13,Prefix.toD x17,hxi13,rfl,?_⟩;refine ⟨rfl,?_⟩;obtain ⟨v19,g20,h⟩:=bind_inv h;refine ⟨_,_,some [50],ref25_without_ok g20,?_⟩;refine ⟨_,hwi13,?_⟩;exact hK18 _ _ (.swap 50 39 rfl rfl rfl wk) h
    ·rintro v11 h;refine ⟨a2.Announce.length,List.length_map _,?_⟩;revert h;refine cut_join (fun v21=>⟨dd 4 (AV.ref 4 0::X::AV.ref 6 0::X::AV.ref 8 0::dd 128 ([])),nn 4 (some (OB.box (RIB.av a1))::N::some (OB.box RIB.zv)::N::some (OB.box [AV.d (D.i v9.Peer.ASN),AV.d (D.s v9.Peer.Set),AV.d (D.i v9.Peer.Max4),AV.d (D.i v9.Peer.Max6),AV.d (D.l 3 Addr.toD v9.Peer.Nexts),AV.d (D.b v9.Up),AV.own 39 (List.map Held.toD v21).length,AV.d (D.i v9.Until)])::nn 30 (some (OB.row 101 18 (List.map Held.toD v21) false)::nn 97 ([])))⟩) ?_ ?_
     ·intro k22 h;revert h;refine loop_for 54 4 Prefix.toD rfl (fun i23 v24=>⟨X::X::X::AV.ref 3 0::AV.ref 4 0::AV.ref 5 0::AV.ref 6 0::X::AV.ref 8 0::dd 45 (AV.d (D.l 4 Prefix.toD a2.Announce)::AV.d (D.i (a2.Announce.length:Int))::AV.d (D.i (i23:Int))::dd 80 ([])),N::N::N::some (OB.box (Filter.av a0))::some (OB.box (RIB.av a1))::some (OB.box (Update.av a2))::some (OB.box RIB.zv)::N::some (OB.box [AV.d (D.i v9.Peer.ASN),AV.d (D.s v9.Peer.Set),AV.d (D.i v9.Peer.Max4),AV.d (D.i v9.Peer.Max6),AV.d (D.l 3 Addr.toD v9.Peer.Nexts),AV.d (D.b v9.Up),AV.own 39 (List.map Held.toD v24).length,AV.d (D.i v9.Until)])::nn 30 (some (OB.row 101 18 (List.map Held.toD v24) false)::nn 97 ([]))⟩) ?_ ?_ ?_
      ·exact wk
      ·rintro v24 K25 h;(conv=>whnf);refine .go ?_;(conv=>whnf);refine sel_f lt_f ?_;exact join_end wk h
      ·rintro next26 i23 x27 v24 K25 hii23 hxi23 hwi23 h hK28;(conv=>whnf);refine .go ?_;(conv=>whnf);refine sel_t (lt_t hii23) ?_;revert h;refine cut_join (fun v29=>⟨X::X::X::AV.ref 3 0::AV.ref 4 0::AV.ref 5 0::AV.ref 6 0::X::AV.ref 8 0::dd 45 (AV.d (D.l 4 Prefix.toD a2.Announce)::AV.d (D.i (a2.Announce.length:Int))::AV.d (D.i (i23:Int))::dd 80 ([])),N::N::N::some (OB.box (Filter.av a0))::some (OB.box (RIB.av a1))::some (OB.box (Update.av a2))::some (OB.box RIB.zv)::N::some (OB.box [AV.d (D.i v9.Peer.ASN),AV.d (D.s v9.Peer.Set),AV.d (D.i v9.Peer.Max4),AV.d (D.i v9.Peer.Max6),AV.d (D.l 3 Addr.toD v9.Peer.Nexts),AV.d (D.b v9.Up),AV.own 103 (List.map Held.toD v29).length,AV.d (D.i v9.Until)])::nn 94 (some (OB.row 101 18 (List.map Held.toD v29) false)::nn 33 ([]))⟩) ?_ ?_
       ·intro k30 h;refine ⟨idx_b (f:=Prefix.toD) hii23,Prefix.toD x27,hxi23,rfl,?_⟩;(conv=>whnf);refine dOB (by kernel_rfl) ?_;obtain ⟨v31,g32,h⟩:=bind_inv h;refine ⟨_,_,ref23_CopyAttrs_ok g32,.inl rfl,?_⟩;(conv=>whnf);refine cOB (by kernel_rfl) ?_;(conv=>whnf);refine dOB (by kernel_rfl) ?_;obtain ⟨v33,g34,h⟩:=bind_inv h;refine ⟨_,_,ref24_Check_ok g34,.inl rfl,?_⟩;(conv=>whnf);refine cOB (by kernel_rfl) ?_;refine ⟨rfl,?_⟩;obtain ⟨v35,g36,h⟩:=bind_inv h;refine ⟨_,_,some [78],ref25_without_ok g36,?_⟩;revert h;refine cut_join (fun v37=>⟨X::X::X::AV.ref 3 0::AV.ref 4 0::AV.ref 5 0::AV.ref 6 0::X::AV.ref 8 0::dd 5 (AV.ref 14 0::AV.own 78 (List.map Held.toD v35).length::AV.d (D.i v37)::dd 37 (AV.d (D.l 4 Prefix.toD a2.Announce)::AV.d (D.i (a2.Announce.length:Int))::AV.d (D.i (i23:Int))::dd 80 ([]))),N::N::N::some (OB.box (Filter.av a0))::some (OB.box (RIB.av a1))::some (OB.box (Update.av a2))::some (OB.box RIB.zv)::N::some (OB.box [AV.d (D.i v9.Peer.ASN),AV.d (D.s v9.Peer.Set),AV.d (D.i v9.Peer.Max4),AV.d (D.i v9.Peer.Max6),AV.d (D.l 3 Addr.toD v9.Peer.Nexts),AV.d (D.b v9.Up),AV.own 39 (List.map Held.toD v24).length,AV.d (D.i v9.Until)])::nn 5 (some (OB.box [AV.d (D.b ((((⟨x27,a1.Peer.ASN,v31⟩:Route).Prefix).Addr).V6)),AV.d (D.u64 ((((⟨x27,a1.Peer.ASN,v31⟩:Route).Prefix).Addr).Hi)),AV.d (D.u64 ((((⟨x27,a1.Peer.ASN,v31⟩:Route).Prefix).Addr).Lo)),AV.d (D.i (((⟨x27,a1.Peer.ASN,v31⟩:Route).Prefix).Len)),AV.d (D.i ((⟨x27,a1.Peer.ASN,v31⟩:Route).From)),AV.d (D.i (((⟨x27,a1.Peer.ASN,v31⟩:Route).Attrs).Origin)),AV.d (D.l 2 Segment.toD (((⟨x27,a1.Peer.ASN,v31⟩:Route).Attrs).Path)),AV.d (D.b ((((⟨x27,a1.Peer.ASN,v31⟩:Route).Attrs).Next).V6)),AV.d (D.u64 ((((⟨x27,a1.Peer.ASN,v31⟩:Route).Attrs).Next).Hi)),AV.d (D.u64 ((((⟨x27,a1.Peer.ASN,v31⟩:Route).Attrs).Next).Lo)),AV.d (D.i (((⟨x27,a1.Peer.ASN,v31⟩:Route).Attrs).MED)),AV.d (D.i (((⟨x27,a1.Peer.ASN,v31⟩:Route).Attrs).Pref)),AV.d (D.i (((⟨x27,a1.Peer.ASN,v31⟩:Route).Attrs).OTC)),AV.d (D.l 2 Community.toD (((⟨x27,a1.Peer.ASN,v31⟩:Route).Attrs).Communities)),AV.d (D.l 3 Large.toD (((⟨x27,a1.Peer.ASN,v31⟩:Route).Attrs).Large)),AV.d (D.l 3 Unknown.toD (((⟨x27,a1.Peer.ASN,v31⟩:Route).Attrs).Other)),AV.d (D.i v33),AV.d (D.b false)])::nn 24 (some (OB.row 101 18 (List.map Held.toD v24) true)::nn 38 (some (OB.row 101 18 (List.map Held.toD v35) false)::nn 58 ([]))))⟩) ?_ ?_
        ·intro k38 h;revert h;refine loop_while (fun v39=>⟨X::X::X::AV.ref 3 0::AV.ref 4 0::AV.ref 5 0::AV.ref 6 0::X::AV.ref 8 0::X::X::X::AV.ref 12 0::X::AV.ref 14 0::AV.own 78 (List.map Held.toD v35).length::AV.d (D.i v39)::dd 37 (AV.d (D.l 4 Prefix.toD a2.Announce)::AV.d (D.i (a2.Announce.length:Int))::AV.d (D.i (i23:Int))::dd 80 ([])),N::N::N::some (OB.box (Filter.av a0))::some (OB.box (RIB.av a1))::some (OB.box (Update.av a2))::some (OB.box RIB.zv)::N::some (OB.box [AV.d (D.i v9.Peer.ASN),AV.d (D.s v9.Peer.Set),AV.d (D.i v9.Peer.Max4),AV.d (D.i v9.Peer.Max6),AV.d (D.l 3 Addr.toD v9.Peer.Nexts),AV.d (D.b v9.Up),AV.own 39 (List.map Held.toD v24).length,AV.d (D.i v9.Until)])::N::N::N::some (OB.box (Prefix.av x27))::N::some (OB.box [AV.d (D.b ((((⟨x27,a1.Peer.ASN,v31⟩:Route).Prefix).Addr).V6)),AV.d (D.u64 ((((⟨x27,a1.Peer.ASN,v31⟩:Route).Prefix).Addr).Hi)),AV.d (D.u64 ((((⟨x27,a1.Peer.ASN,v31⟩:Route).Prefix).Addr).Lo)),AV.d (D.i (((⟨x27,a1.Peer.ASN,v31⟩:Route).Prefix).Len)),AV.d (D.i ((⟨x27,a1.Peer.ASN,v31⟩:Route).From)),AV.d (D.i (((⟨x27,a1.Peer.ASN,v31⟩:Route).Attrs).Origin)),AV.d (D.l 2 Segment.toD (((⟨x27,a1.Peer.ASN,v31⟩:Route).Attrs).Path)),AV.d (D.b ((((⟨x27,a1.Peer.ASN,v31⟩:Route).Attrs).Next).V6)),AV.d (D.u64 ((((⟨x27,a1.Peer.ASN,v31⟩:Route).Attrs).Next).Hi)),AV.d (D.u64 ((((⟨x27,a1.Peer.ASN,v31⟩:Route).Attrs).Next).Lo)),AV.d (D.i (((⟨x27,a1.Peer.ASN,v31⟩:Route).Attrs).MED)),AV.d (D.i (((⟨x27,a1.Peer.ASN,v31⟩:Route).Attrs).Pref)),AV.d (D.i (((⟨x27,a1.Peer.ASN,v31⟩:Route).Attrs).OTC)),AV.d (D.l 2 Community.toD (((⟨x27,a1.Peer.ASN,v31⟩:Route).Attrs).Communities)),AV.d (D.l 3 Large.toD (((⟨x27,a1.Peer.ASN,v31⟩:Route).Attrs).Large)),AV.d (D.l 3 Unknown.toD (((⟨x27,a1.Peer.ASN,v31⟩:Route).Attrs).Other)),AV.d (D.i v33),AV.d (D.b false)])::nn 24 (some (OB.row 101 18 (List.map Held.toD v24) true)::nn 38 (some (OB.row 101 18 (List.map Held.toD v35) false)::nn 58 ([])))⟩) ?_ ?_
         ·exact wk
         rintro next40 v39 K41 h hK42;revert h;refine cut_join (fun v43=>⟨X::X::X::AV.ref 3 0::AV.ref 4 0::AV.ref 5 0::AV.ref 6 0::X::AV.ref 8 0::X::X::X::AV.ref 12 0::X::AV.ref 14 0::AV.own 78 (List.map Held.toD v35).length::AV.d (D.i v39)::dd 37 (AV.d (D.l 4 Prefix.toD a2.Announce)::AV.d (D.i (a2.Announce.length:Int))::AV.d (D.i (i23:Int))::dd 36 (AV.d (D.b v43)::dd 43 ([]))),N::N::N::some (OB.box (Filter.av a0))::some (OB.box (RIB.av a1))::some (OB.box (Update.av a2))::some (OB.box RIB.zv)::N::some (OB.box [AV.d (D.i v9.Peer.ASN),AV.d (D.s v9.Peer.Set),AV.d (D.i v9.Peer.Max4),AV.d (D.i v9.Peer.Max6),AV.d (D.l 3 Addr.toD v9.Peer.Nexts),AV.d (D.b v9.Up),AV.own 39 (List.map Held.toD v24).length,AV.d (D.i v9.Until)])::N::N::N::some (OB.box (Prefix.av x27))::N::some (OB.box [AV.d (D.b ((((⟨x27,a1.Peer.ASN,v31⟩:Route).Prefix).Addr).V6)),AV.d (D.u64 ((((⟨x27,a1.Peer.ASN,v31⟩:Route).Prefix).Addr).Hi)),AV.d (D.u64 ((((⟨x27,a1.Peer.ASN,v31⟩:Route).Prefix).Addr).Lo)),AV.d (D.i (((⟨x27,a1.Peer.ASN,v31⟩:Route).Prefix).Len)),AV.d (D.i ((⟨x27,a1.Peer.ASN,v31⟩:Route).From)),AV.d (D.i (((⟨x27,a1.Peer.ASN,v31⟩:Route).Attrs).Origin)),AV.d (D.l 2 Segment.toD (((⟨x27,a1.Peer.ASN,v31⟩:Route).Attrs).Path)),AV.d (D.b ((((⟨x27,a1.Peer.ASN,v31⟩:Route).Attrs).Next).V6)),AV.d (D.u64 ((((⟨x27,a1.Peer.ASN,v31⟩:Route).Attrs).Next).Hi)),AV.d (D.u64 ((((⟨x27,a1.Peer.ASN,v31⟩:Route).Attrs).Next).Lo)),AV.d (D.i (((⟨x27,a1.Peer.ASN,v31⟩:Route).Attrs).MED)),AV.d (D.i (((⟨x27,a1.Peer.ASN,v31⟩:Route).Attrs).Pref)),AV.d (D.i (((⟨x27,a1.Peer.ASN,v31⟩:Route).Attrs).OTC)),AV.d (D.l 2 Community.toD (((⟨x27,a1.Peer.ASN,v31⟩:Route).Attrs).Communities)),AV.d (D.l 3 Large.toD (((⟨x27,a1.Peer.ASN,v31⟩:Route).Attrs).Large)),AV.d (D.l 3 Unknown.toD (((⟨x27,a1.Peer.ASN,v31⟩:Route).Attrs).Other)),AV.d (D.i v33),AV.d (D.b false)])::nn 24 (some (OB.row 101 18 (List.map Held.toD v24) true)::nn 38 (some (OB.row 101 18 (List.map Held.toD v35) false)::nn 58 ([])))⟩) ?_ ?_
         ·intro k44 h;(conv=>whnf);refine dOB (by kernel_rfl) ?_;refine ⟨v35.length,by first | exact List.length_map _ | rfl | (simp only [List.length_map];omega),?_⟩;revert h;refine sel_if ?_ ?_<;>intro h
          ·obtain ⟨v45,g46,h⟩:=bind_inv h;refine ⟨rfl,geti_b (f:=Held.toD) g46,?_⟩;refine ⟨rfl,?_⟩;refine ⟨rfl,?_⟩;refine ⟨rfl,Held.toD v45,(geti_d (f:=Held.toD) g46),?_⟩;obtain ⟨v47,g48,h⟩:=bind_inv h;refine ⟨_,_,ref02_Cmp_ok g48,.inl rfl,?_⟩;(conv=>whnf);refine cOB (by kernel_rfl) ?_;exact join_end wk h
          ·(conv=>whnf);refine cOB (by kernel_rfl) ?_;exact join_end wk h
         ·rintro v43 h;(conv=>whnf);refine .go ?_;revert h;refine sel_if ?_ ?_<;>intro h
          ·(conv=>whnf);refine .go ?_;refine ⟨_,rfl,?_⟩;exact hK42 _ _ wk h
          ·exact join_end wk h
        ·rintro v37 h;(conv=>whnf);refine .inr (.inl ?_);obtain ⟨_,g49,h⟩:=bind_inv h;refine ⟨view_b0 (f:=Held.toD) g49,rfl,(Int.toNat v37),(Int.toNat (v35.length:Int) - Int.toNat v37),rfl,(by rw [List.length_map]),?_⟩;refine ⟨(by first | rfl | (simp only [List.length_map,List.length_set];omega)),List.map Held.toD (List.take (Int.toNat (v35.length:Int) - Int.toNat v37) (List.drop (Int.toNat v37) v35)),view_z,?_⟩;obtain ⟨_,g50,h⟩:=bind_inv h;refine ⟨apnd_b0 (g:=Held.toD) g50,?_⟩;(conv=>whnf);refine dOB (by kernel_rfl) ?_;obtain ⟨_,g51,h⟩:=bind_inv h;obtain ⟨v52,g53,h⟩:=bind_inv h;refine ⟨move_bm (f:=Held.toD) g53 g51,rfl,_,part_z (f:=Held.toD) g53,?_⟩;refine ⟨rfl,?_⟩;obtain ⟨v54,g55,h⟩:=bind_inv h;refine ⟨rfl,apnd_b (f:=Held.toD) (g:=Held.toD) g55,_,apnd_z (f:=Held.toD) g55,?_⟩;refine ⟨rfl,?_⟩;obtain ⟨v56,g57,h⟩:=bind_inv h;refine ⟨rfl,apnd_b (f:=Held.toD) (g:=Held.toD) g57,_,apnd_z (f:=Held.toD) g57,?_⟩;(conv=>whnf);refine cOB (by kernel_rfl) ?_;exact join_end wk h
       ·rintro v29 h;refine ⟨_,hwi23,?_⟩;exact hK28 _ _ (.swap 103 39 rfl rfl rfl wk) h
     ·rintro v21 h;refine ⟨rfl,?_⟩;obtain ⟨⟨v58,v59⟩,g60,h⟩:=bind_inv h;refine ⟨_,_,none,ref25_Count_ok g60,?_⟩;revert h;refine cut_join (fun v61=>⟨dd 6 (AV.ref 6 0::X::AV.ref 8 0::dd 124 (AV.d (D.b v61)::X::X::X::[])),nn 6 (some (OB.box RIB.zv)::N::some (OB.box [AV.d (D.i v9.Peer.ASN),AV.d (D.s v9.Peer.Set),AV.d (D.i v9.Peer.Max4),AV.d (D.i v9.Peer.Max6),AV.d (D.l 3 Addr.toD v9.Peer.Nexts),AV.d (D.b v9.Up),AV.own 39 (List.map Held.toD v21).length,AV.d (D.i v9.Until)])::nn 30 (some (OB.row 101 18 (List.map Held.toD v21) false)::nn 97 ([])))⟩) ?_ ?_
      ·intro k62 h;revert h;refine sel_if ?_ ?_<;>intro h
       ·exact join_end wk h
       ·revert h;refine sel_if ?_ ?_<;>intro h
        ·exact join_end wk h
        ·refine ⟨_,rfl,?_⟩;exact join_end wk h
      ·rintro v61 h;(conv=>whnf);refine .go ?_;revert h;refine sel_if ?_ ?_<;>intro h
       ·cases h;exact ⟨rfl,rfl⟩
       ·refine ⟨rfl,?_⟩;obtain ⟨v63,g64,h⟩:=bind_inv h;refine ⟨_,_,some [],ref25_settle_ok g64,?_⟩;cases h;exact ⟨rfl,rfl⟩
theorem ref25_Raise_ok {a0:RIB} {r:RIB×Int} (h:ref25_Raise a0=some r):CallsOK Tryz.prog 62 [AV.d (RIB.toD a0)] [] (.tup [.d (RIB.toD r.1),.d (D.i r.2)]) []:=by
 refine ok Tryz.f62 (by kernel_rfl) (by kernel_rfl) ⟨rfl,?_⟩;unfold ref25_Raise at h;obtain ⟨v1,g2,h⟩:=bind_inv h;refine ⟨_,_,some [],ref25_Valid_ok g2,?_⟩;(conv=>whnf);refine .go ?_;revert h;refine sel_if ?_ ?_<;>intro h
 ·cases h;exact ⟨rfl,rfl⟩
 ·(conv=>whnf);refine .go ?_;revert h;refine sel_if ?_ ?_<;>intro h
  ·cases h;exact ⟨rfl,rfl⟩
  ·obtain ⟨v3,g4,h⟩:=bind_inv h;refine ⟨_,_,some [13],ref25_Copy_ok g4,?_⟩;refine ⟨rfl,?_⟩;cases h;exact ⟨rfl,rfl⟩
end Go.AX.Q35
end
section
namespace Go.AX.Q35
open Go Go.AX Go.Proofs
set_option maxRecDepth 100000
set_option maxHeartbeats 4000000
set_option linter.unusedVariables false
theorem ref25_Down_ok {a0:RIB} {a1:Int} {a2:Int} {r:RIB×Int} (h:ref25_Down a0 a1 a2=some r):CallsOK Tryz.prog 63 [AV.d (RIB.toD a0),AV.d (D.i a1),AV.d (D.i a2)] [] (.tup [.d (RIB.toD r.1),.d (D.i r.2)]) []:=by
 refine ok Tryz.f63 (by kernel_rfl) (by kernel_rfl) ⟨rfl,?_⟩;unfold ref25_Down at h;revert h;refine cut_join (fun v1=>⟨X::AV.d (D.i a1)::AV.d (D.i a2)::AV.ref 3 0::X::X::AV.ref 6 0::dd 21 (AV.d (D.b v1)::dd 29 ([])),N::N::N::some (OB.box (RIB.av a0))::N::N::some (OB.box RIB.zv)::nn 51 ([])⟩) ?_ ?_
 ·intro k2 h;obtain ⟨v3,g4,h⟩:=bind_inv h;refine ⟨_,_,some [],ref25_Valid_ok g4,?_⟩;revert h;refine sel_if ?_ ?_<;>intro h
  ·exact join_end wk h
  ·revert h;refine sel_if ?_ ?_<;>intro h
   ·exact join_end wk h
   ·revert h;refine sel_if ?_ ?_<;>intro h
    ·exact join_end wk h
    ·revert h;refine sel_if ?_ ?_<;>intro h
     ·exact join_end wk h
     ·exact join_end wk h
 ·rintro v1 h;(conv=>whnf);refine .go ?_;revert h;refine sel_if ?_ ?_<;>intro h
  ·cases h;exact ⟨rfl,rfl⟩
  ·(conv=>whnf);refine .go ?_;revert h;refine sel_if ?_ ?_<;>intro h
   ·cases h;exact ⟨rfl,rfl⟩
   ·obtain ⟨v5,g6,h⟩:=bind_inv h;refine ⟨_,_,some [35],ref25_Copy_ok g6,?_⟩;refine ⟨_,rfl,?_⟩;revert h;refine cut_join (fun v7=>⟨dd 6 (AV.ref 6 0::X::AV.ref 8 0::dd 49 ([])),nn 6 (some (OB.box RIB.zv)::N::some (OB.box [AV.d (D.i v5.Peer.ASN),AV.d (D.s v5.Peer.Set),AV.d (D.i v5.Peer.Max4),AV.d (D.i v5.Peer.Max6),AV.d (D.l 3 Addr.toD v5.Peer.Nexts),AV.d (D.b false),AV.own 35 (List.map Held.toD v7).length,AV.d (D.i (i64w (a1 + a2)))])::nn 26 (some (OB.row 101 18 (List.map Held.toD v7) false)::nn 22 ([])))⟩) ?_ ?_
    ·intro k8 h;revert h;refine sel_if ?_ ?_<;>intro h
     ·exact join_end (.swap 35 57 rfl rfl rfl wk) h
     ·exact join_end wk h
    ·rintro v7 h;refine ⟨v7.length,by first | exact List.length_map _ | rfl | (simp only [List.length_map];omega),?_⟩;revert h;refine cut_join (fun v9=>⟨dd 6 (AV.ref 6 0::X::AV.ref 8 0::dd 49 ([])),nn 6 (some (OB.box RIB.zv)::N::some (OB.box [AV.d (D.i v5.Peer.ASN),AV.d (D.s v5.Peer.Set),AV.d (D.i v5.Peer.Max4),AV.d (D.i v5.Peer.Max6),AV.d (D.l 3 Addr.toD v5.Peer.Nexts),AV.d (D.b false),AV.own 35 (List.map Held.toD v9).length,AV.d (D.i (i64w (a1 + a2)))])::nn 26 (some (OB.row 101 18 (List.map Held.toD v9) false)::nn 22 ([])))⟩) ?_ ?_
     ·intro k10 h;revert h;refine loop_while (fun (v11,v12)=>⟨dd 6 (AV.ref 6 0::X::AV.ref 8 0::dd 37 (AV.d (D.i (v7.length:Int))::AV.d (D.i v11)::dd 10 ([]))),nn 6 (some (OB.box RIB.zv)::N::some (OB.box [AV.d (D.i v5.Peer.ASN),AV.d (D.s v5.Peer.Set),AV.d (D.i v5.Peer.Max4),AV.d (D.i v5.Peer.Max6),AV.d (D.l 3 Addr.toD v5.Peer.Nexts),AV.d (D.b false),AV.own 35 (List.map Held.toD v12).length,AV.d (D.i (i64w (a1 + a2)))])::nn 26 (some (OB.row 101 18 (List.map Held.toD v12) false)::nn 22 ([])))⟩) ?_ ?_
      ·exact wk
      rintro next13 ⟨v11,v12⟩ K14 h hK15;(conv=>whnf);refine .go ?_;revert h;refine sel_if ?_ ?_<;>intro h
      ·(conv=>whnf);refine .go ?_;obtain ⟨v16,g17,h⟩:=bind_inv h;refine ⟨rfl,geti_b (f:=Held.toD) g17,?_⟩;refine ⟨rfl,?_⟩;obtain ⟨v18,g19,h⟩:=bind_inv h;have g19l:=seti_len g19;refine ⟨rfl,rfl,Held.toD v16,(geti_d (f:=Held.toD) g17),?_⟩;refine ⟨_,seti_z (f:=Held.toD) g19,?_⟩;refine ⟨_,rfl,?_⟩;exact hK15 _ _ wk h
      ·exact join_end wk h
     ·rintro v9 h;refine ⟨rfl,?_⟩;obtain ⟨v20,g21,h⟩:=bind_inv h;refine ⟨_,_,some [],ref25_settle_ok g21,?_⟩;cases h;exact ⟨rfl,rfl⟩
theorem ref25_Sweep_ok {a0:RIB} {a1:Int} {r:RIB} (h:ref25_Sweep a0 a1=some r):CallsOK Tryz.prog 66 [AV.d (RIB.toD a0),AV.d (D.i a1)] [] (.d (RIB.toD r)) []:=by
 refine ok Tryz.f66 (by kernel_rfl) (by kernel_rfl) ⟨rfl,?_⟩;unfold ref25_Sweep at h;obtain ⟨v1,g2,h⟩:=bind_inv h;refine ⟨_,_,some [10],ref25_Copy_ok g2,?_⟩;obtain ⟨v3,g4,h⟩:=bind_inv h;refine ⟨_,_,some [13],ref25_Copy_ok g4,?_⟩;refine ⟨v3.Held.length,by first | exact List.length_map _ | rfl | (simp only [List.length_map];omega),?_⟩;revert h;refine cut_join (fun v5=>⟨dd 4 (AV.ref 4 0::AV.ref 5 0::dd 46 ([])),nn 4 (some (OB.box RIB.zv)::some (OB.box [AV.d (D.i v1.Peer.ASN),AV.d (D.s v1.Peer.Set),AV.d (D.i v1.Peer.Max4),AV.d (D.i v1.Peer.Max6),AV.d (D.l 3 Addr.toD v1.Peer.Nexts),AV.d (D.b v1.Up),AV.own 47 (List.map Held.toD v5).length,AV.d (D.i v1.Until)])::nn 41 (some (OB.row 101 18 (List.map Held.toD v5) false)::nn 4 ([])))⟩) ?_ ?_
 ·intro k6 h;revert h;refine loop_own 13 101 18 false Held.toD rfl (fun i7 v8=>⟨X::AV.d (D.i a1)::X::X::AV.ref 4 0::AV.ref 5 0::dd 8 (AV.own 13 (List.map Held.toD v3.Held).length::AV.d (D.i (v3.Held.length:Int))::AV.d (D.i (i7:Int))::dd 35 ([])),nn 4 (some (OB.box RIB.zv)::some (OB.box [AV.d (D.i v1.Peer.ASN),AV.d (D.s v1.Peer.Set),AV.d (D.i v1.Peer.Max4),AV.d (D.i v1.Peer.Max6),AV.d (D.l 3 Addr.toD v1.Peer.Nexts),AV.d (D.b v1.Up),AV.own 47 (List.map Held.toD v8).length,AV.d (D.i v1.Until)])::nn 7 (some (OB.row 101 18 (List.map Held.toD v3.Held) false)::nn 33 (some (OB.row 101 18 (List.map Held.toD v8) false)::nn 4 ([]))))⟩) ?_ ?_ ?_
  ·exact wk
  ·rintro v8 K9 h;(conv=>whnf);refine .go ?_;(conv=>whnf);refine sel_f lt_f ?_;exact join_end wk h
  ·rintro next10 i7 x11 v8 K9 hii7 hxi7 hwi7 h hK12;(conv=>whnf);refine .go ?_;(conv=>whnf);refine sel_t (lt_t hii7) ?_;(conv=>whnf);refine .go ?_;refine ⟨rfl,idx_b (f:=Held.toD) hii7,?_⟩;refine ⟨rfl,Held.toD x11,hxi7,?_⟩;revert h;refine cut_join (fun v13=>⟨X::AV.d (D.i a1)::X::X::AV.ref 4 0::AV.ref 5 0::X::AV.ref 7 0::dd 6 (AV.own 13 (List.map Held.toD v3.Held).length::AV.d (D.i (v3.Held.length:Int))::AV.d (D.i (i7:Int))::dd 25 (AV.d (D.b v13)::dd 9 ([]))),nn 4 (some (OB.box RIB.zv)::some (OB.box [AV.d (D.i v1.Peer.ASN),AV.d (D.s v1.Peer.Set),AV.d (D.i v1.Peer.Max4),AV.d (D.i v1.Peer.Max6),AV.d (D.l 3 Addr.toD v1.Peer.Nexts),AV.d (D.b v1.Up),AV.own 47 (List.map Held.toD v8).length,AV.d (D.i v1.Until)])::N::some (OB.box (Held.av x11))::nn 5 (some (OB.row 101 18 (List.map Held.toD v3.Held) false)::nn 33 (some (OB.row 101 18 (List.map Held.toD v8) false)::nn 4 ([]))))⟩) ?_ ?_
   ·intro k14 h;revert h;refine sel_if ?_ ?_<;>intro h
    ·exact join_end wk h
    ·revert h;refine sel_if ?_ ?_<;>intro h
     ·revert h;refine sel_if ?_ ?_<;>intro h
      ·exact join_end wk h
      ·revert h;refine sel_if ?_ ?_<;>intro h
       ·exact join_end wk h
       ·exact join_end wk h
     ·revert h;refine sel_if ?_ ?_<;>intro h
      ·exact join_end wk h
      ·exact join_end wk h
   ·rintro v13 h;revert h;refine cut_join (fun v15=>⟨X::AV.d (D.i a1)::X::X::AV.ref 4 0::AV.ref 5 0::dd 8 (AV.own 13 (List.map Held.toD v3.Held).length::AV.d (D.i (v3.Held.length:Int))::AV.d (D.i (i7:Int))::dd 35 ([])),nn 4 (some (OB.box RIB.zv)::some (OB.box [AV.d (D.i v1.Peer.ASN),AV.d (D.s v1.Peer.Set),AV.d (D.i v1.Peer.Max4),AV.d (D.i v1.Peer.Max6),AV.d (D.l 3 Addr.toD v1.Peer.Nexts),AV.d (D.b v1.Up),AV.own 47 (List.map Held.toD v15).length,AV.d (D.i v1.Until)])::nn 7 (some (OB.row 101 18 (List.map Held.toD v3.Held) false)::nn 33 (some (OB.row 101 18 (List.map Held.toD v15) false)::nn 4 ([]))))⟩) ?_ ?_
    ·intro k16 h;revert h;refine sel_if ?_ ?_<;>intro h
     ·refine ⟨rfl,?_⟩;obtain ⟨v17,g18,h⟩:=bind_inv h;refine ⟨rfl,apnd_b (f:=Held.toD) (g:=Held.toD) g18,_,apnd_z (f:=Held.toD) g18,?_⟩;exact join_end wk h
     ·exact join_end wk h
    ·rintro v15 h;refine ⟨_,hwi7,?_⟩;exact hK12 _ _ wk h
 ·rintro v5 h;refine ⟨rfl,?_⟩;obtain ⟨v19,g20,h⟩:=bind_inv h;refine ⟨_,_,some [],ref25_settle_ok g20,?_⟩;cases h;exact ⟨rfl,rfl⟩
theorem ref23_SameInts_ok {a0:List Int} {a1:List Int} {r:Bool} (h:ref23_SameInts a0 a1=some r):CallsOK Tryz.prog 52 [AV.d (D.l 1 D.i a0),AV.d (D.l 1 D.i a1)] [] (.d (D.b r)) []:=by
 refine ok Tryz.f52 (by kernel_rfl) (by kernel_rfl) ⟨rfl,?_⟩;unfold ref23_SameInts at h;refine ⟨a0.length,List.length_map _,?_⟩;refine ⟨a1.length,List.length_map _,?_⟩;(conv=>whnf);refine .go ?_;revert h;refine sel_if ?_ ?_<;>intro h
 ·cases h;exact ⟨rfl,rfl⟩
 ·refine ⟨a0.length,List.length_map _,?_⟩;revert h;refine cut_join (fun _=>⟨dd 26 ([]),nn 26 ([])⟩) ?_ ?_
  ·intro k1 h;revert h;refine loop_for 11 1 D.i rfl (fun i2 _=>⟨AV.d (D.l 1 D.i a0)::AV.d (D.l 1 D.i a1)::dd 9 (AV.d (D.l 1 D.i a0)::AV.d (D.i (a0.length:Int))::AV.d (D.i (i2:Int))::dd 12 ([])),nn 26 ([])⟩) ?_ ?_ ?_
   ·exact wk
   ·rintro _ K3 h;(conv=>whnf);refine .go ?_;(conv=>whnf);refine sel_f lt_f ?_;exact join_end wk h
   ·rintro next4 i2 x5 _ K3 hii2 hxi2 hwi2 h hK6;(conv=>whnf);refine .go ?_;(conv=>whnf);refine sel_t (lt_t hii2) ?_;(conv=>whnf);refine .go ?_;(conv=>whnf);refine dOB (by kernel_rfl) ?_;refine ⟨idx_b (f:=D.i) hii2,D.i x5,hxi2,rfl,?_⟩;obtain ⟨v7,g8,h⟩:=bind_inv h;refine ⟨geti_b (f:=D.i) g8,D.i v7,geti_d (f:=D.i) g8,rfl,?_⟩;(conv=>whnf);refine cOB (by kernel_rfl) ?_;(conv=>whnf);refine .go ?_;revert h;refine sel_if ?_ ?_<;>intro h
    ·cases h;exact ⟨rfl,rfl⟩
    ·refine ⟨_,hwi2,?_⟩;exact hK6 _ _ wk h
  ·rintro _ h;cases h;exact ⟨rfl,rfl⟩
theorem ref23_SameAttrs_ok {a0:Attrs} {a1:Attrs} {r:Bool} (h:ref23_SameAttrs a0 a1=some r):CallsOK Tryz.prog 32 [AV.d (Attrs.toD a0),AV.d (Attrs.toD a1)] [] (.d (D.b r)) []:=by
 refine ok Tryz.f32 (by kernel_rfl) (by kernel_rfl) ⟨rfl,?_⟩;unfold ref23_SameAttrs at h;revert h;refine cut_join (fun v1=>⟨X::X::AV.ref 2 0::AV.ref 3 0::dd 73 (AV.d (D.b v1)::dd 124 ([])),N::N::some (OB.box (Attrs.av a0))::some (OB.box (Attrs.av a1))::nn 198 ([])⟩) ?_ ?_
 ·intro k2 h;revert h;refine sel_if ?_ ?_<;>intro h
  ·exact join_end wk h
  ·revert h;refine sel_if ?_ ?_<;>intro h
   ·exact join_end wk h
   ·revert h;refine sel_if ?_ ?_<;>intro h
    ·exact join_end wk h
    ·revert h;refine sel_if ?_ ?_<;>intro h
     ·exact join_end wk h
     ·revert h;refine sel_if ?_ ?_<;>intro h
      ·exact join_end wk h
      ·refine ⟨a0.Path.length,List.length_map _,?_⟩;refine ⟨a1.Path.length,List.length_map _,?_⟩;revert h;refine sel_if ?_ ?_<;>intro h
       ·exact join_end wk h
       ·refine ⟨a0.Communities.length,List.length_map _,?_⟩;refine ⟨a1.Communities.length,List.length_map _,?_⟩;revert h;refine sel_if ?_ ?_<;>intro h
        ·exact join_end wk h
        ·refine ⟨a0.Large.length,List.length_map _,?_⟩;refine ⟨a1.Large.length,List.length_map _,?_⟩;revert h;refine sel_if ?_ ?_<;>intro h
         ·exact join_end wk h
         ·refine ⟨a0.Other.length,List.length_map _,?_⟩;refine ⟨a1.Other.length,List.length_map _,?_⟩;exact join_end wk h
 ·rintro v1 h;(conv=>whnf);refine .go ?_;revert h;refine sel_if ?_ ?_<;>intro h
  ·cases h;exact ⟨rfl,rfl⟩
  ·refine ⟨a0.Path.length,List.length_map _,?_⟩;revert h;refine cut_join (fun _=>⟨X::X::AV.ref 2 0::AV.ref 3 0::dd 198 ([]),N::N::some (OB.box (Attrs.av a0))::some (OB.box (Attrs.av a1))::nn 198 ([])⟩) ?_ ?_
   ·intro k3 h;revert h;refine loop_for 79 2 Segment.toD rfl (fun i4 _=>⟨X::X::AV.ref 2 0::AV.ref 3 0::dd 75 (AV.d (D.l 2 Segment.toD a0.Path)::AV.d (D.i (a0.Path.length:Int))::AV.d (D.i (i4:Int))::dd 120 ([])),N::N::some (OB.box (Attrs.av a0))::some (OB.box (Attrs.av a1))::nn 198 ([])⟩) ?_ ?_ ?_
    ·exact wk
    ·rintro _ K5 h;(conv=>whnf);refine .go ?_;(conv=>whnf);refine sel_f lt_f ?_;exact join_end wk h
    ·rintro next6 i4 x7 _ K5 hii4 hxi4 hwi4 h hK8;(conv=>whnf);refine .go ?_;(conv=>whnf);refine sel_t (lt_t hii4) ?_;(conv=>whnf);refine .go ?_;revert h;refine cut_join (fun v9=>⟨X::X::AV.ref 2 0::AV.ref 3 0::dd 75 (AV.d (D.l 2 Segment.toD a0.Path)::AV.d (D.i (a0.Path.length:Int))::AV.d (D.i (i4:Int))::dd 30 (AV.d (D.b v9)::dd 89 ([]))),N::N::some (OB.box (Attrs.av a0))::some (OB.box (Attrs.av a1))::nn 198 ([])⟩) ?_ ?_
     ·intro k10 h;(conv=>whnf);refine dOB (by kernel_rfl) ?_;refine ⟨idx_b (f:=Segment.toD) hii4,Segment.toD x7,hxi4,rfl,?_⟩;obtain ⟨v11,g12,h⟩:=bind_inv h;refine ⟨geti_b (f:=Segment.toD) g12,Segment.toD v11,geti_d (f:=Segment.toD) g12,rfl,?_⟩;revert h;refine sel_if ?_ ?_<;>intro h
      ·(conv=>whnf);refine cOB (by kernel_rfl) ?_;exact join_end wk h
      ·refine ⟨idx_b (f:=Segment.toD) hii4,Segment.toD x7,hxi4,rfl,?_⟩;obtain ⟨v13,g14,h⟩:=bind_inv h;refine ⟨geti_b (f:=Segment.toD) g14,Segment.toD v13,geti_d (f:=Segment.toD) g14,rfl,?_⟩;obtain ⟨v15,g16,h⟩:=bind_inv h;refine ⟨_,_,ref23_SameInts_ok g16,.inl rfl,?_⟩;(conv=>whnf);refine cOB (by kernel_rfl) ?_;exact join_end wk h
     ·rintro v9 h;(conv=>whnf);refine .go ?_;revert h;refine sel_if ?_ ?_<;>intro h
      ·cases h;exact ⟨rfl,rfl⟩
      ·refine ⟨_,hwi4,?_⟩;exact hK8 _ _ wk h
   ·rintro _ h;refine ⟨a0.Communities.length,List.length_map _,?_⟩;revert h;refine cut_join (fun _=>⟨X::X::AV.ref 2 0::AV.ref 3 0::dd 198 ([]),N::N::some (OB.box (Attrs.av a0))::some (OB.box (Attrs.av a1))::nn 198 ([])⟩) ?_ ?_
    ·intro k17 h;revert h;refine loop_for 115 2 Community.toD rfl (fun i18 _=>⟨X::X::AV.ref 2 0::AV.ref 3 0::dd 111 (AV.d (D.l 2 Community.toD a0.Communities)::AV.d (D.i (a0.Communities.length:Int))::AV.d (D.i (i18:Int))::dd 84 ([])),N::N::some (OB.box (Attrs.av a0))::some (OB.box (Attrs.av a1))::nn 198 ([])⟩) ?_ ?_ ?_
     ·exact wk
     ·rintro _ K19 h;(conv=>whnf);refine .go ?_;(conv=>whnf);refine sel_f lt_f ?_;exact join_end wk h
     ·rintro next20 i18 x21 _ K19 hii18 hxi18 hwi18 h hK22;(conv=>whnf);refine .go ?_;(conv=>whnf);refine sel_t (lt_t hii18) ?_;(conv=>whnf);refine .go ?_;(conv=>whnf);refine dOB (by kernel_rfl) ?_;refine ⟨idx_b (f:=Community.toD) hii18,Community.toD x21,hxi18,rfl,?_⟩;obtain ⟨v23,g24,h⟩:=bind_inv h;refine ⟨geti_b (f:=Community.toD) g24,Community.toD v23,geti_d (f:=Community.toD) g24,rfl,?_⟩;(conv=>whnf);refine cOB (by kernel_rfl) ?_;(conv=>whnf);refine .go ?_;revert h;refine sel_if ?_ ?_<;>intro h
      ·cases h;exact ⟨rfl,rfl⟩
      ·refine ⟨_,hwi18,?_⟩;exact hK22 _ _ wk h
    ·rintro _ h;refine ⟨a0.Large.length,List.length_map _,?_⟩;revert h;refine cut_join (fun _=>⟨X::X::AV.ref 2 0::AV.ref 3 0::dd 198 ([]),N::N::some (OB.box (Attrs.av a0))::some (OB.box (Attrs.av a1))::nn 198 ([])⟩) ?_ ?_
     ·intro k25 h;revert h;refine loop_for 133 3 Large.toD rfl (fun i26 _=>⟨X::X::AV.ref 2 0::AV.ref 3 0::dd 129 (AV.d (D.l 3 Large.toD a0.Large)::AV.d (D.i (a0.Large.length:Int))::AV.d (D.i (i26:Int))::dd 66 ([])),N::N::some (OB.box (Attrs.av a0))::some (OB.box (Attrs.av a1))::nn 198 ([])⟩) ?_ ?_ ?_
      ·exact wk
      ·rintro _ K27 h;(conv=>whnf);refine .go ?_;(conv=>whnf);refine sel_f lt_f ?_;exact join_end wk h
      ·rintro next28 i26 x29 _ K27 hii26 hxi26 hwi26 h hK30;(conv=>whnf);refine .go ?_;(conv=>whnf);refine sel_t (lt_t hii26) ?_;(conv=>whnf);refine .go ?_;(conv=>whnf);refine dOB (by kernel_rfl) ?_;refine ⟨idx_b (f:=Large.toD) hii26,Large.toD x29,hxi26,rfl,?_⟩;obtain ⟨v31,g32,h⟩:=bind_inv h;refine ⟨geti_b (f:=Large.toD) g32,Large.toD v31,geti_d (f:=Large.toD) g32,rfl,?_⟩;(conv=>whnf);refine cOB (by kernel_rfl) ?_;(conv=>whnf);refine .go ?_;revert h;refine sel_if ?_ ?_<;>intro h
       ·cases h;exact ⟨rfl,rfl⟩
       ·refine ⟨_,hwi26,?_⟩;exact hK30 _ _ wk h
     ·rintro _ h;refine ⟨a0.Other.length,List.length_map _,?_⟩;revert h;refine cut_join (fun _=>⟨dd 202 ([]),nn 202 ([])⟩) ?_ ?_
      ·intro k33 h;revert h;refine loop_for 151 3 Unknown.toD rfl (fun i34 _=>⟨X::X::AV.ref 2 0::AV.ref 3 0::dd 147 (AV.d (D.l 3 Unknown.toD a0.Other)::AV.d (D.i (a0.Other.length:Int))::AV.d (D.i (i34:Int))::dd 48 ([])),N::N::some (OB.box (Attrs.av a0))::some (OB.box (Attrs.av a1))::nn 198 ([])⟩) ?_ ?_ ?_
       ·exact wk
       ·rintro _ K35 h;(conv=>whnf);refine .go ?_;(conv=>whnf);refine sel_f lt_f ?_;exact join_end wk h
       ·rintro next36 i34 x37 _ K35 hii34 hxi34 hwi34 h hK38;(conv=>whnf);refine .go ?_;(conv=>whnf);refine sel_t (lt_t hii34) ?_;(conv=>whnf);refine .go ?_;revert h;refine cut_join (fun v39=>⟨X::X::AV.ref 2 0::AV.ref 3 0::dd 147 (AV.d (D.l 3 Unknown.toD a0.Other)::AV.d (D.i (a0.Other.length:Int))::AV.d (D.i (i34:Int))::dd 46 (AV.d (D.b v39)::X::[])),N::N::some (OB.box (Attrs.av a0))::some (OB.box (Attrs.av a1))::nn 198 ([])⟩) ?_ ?_
        ·intro k40 h;(conv=>whnf);refine dOB (by kernel_rfl) ?_;refine ⟨idx_b (f:=Unknown.toD) hii34,Unknown.toD x37,hxi34,rfl,?_⟩;obtain ⟨v41,g42,h⟩:=bind_inv h;refine ⟨geti_b (f:=Unknown.toD) g42,Unknown.toD v41,geti_d (f:=Unknown.toD) g42,rfl,?_⟩;revert h;refine sel_if ?_ ?_<;>intro h
         ·(conv=>whnf);refine cOB (by kernel_rfl) ?_;exact join_end wk h
         ·refine ⟨idx_b (f:=Unknown.toD) hii34,Unknown.toD x37,hxi34,rfl,?_⟩;obtain ⟨v43,g44,h⟩:=bind_inv h;refine ⟨geti_b (f:=Unknown.toD) g44,Unknown.toD v43,geti_d (f:=Unknown.toD) g44,rfl,?_⟩;revert h;refine sel_if ?_ ?_<;>intro h
          ·(conv=>whnf);refine cOB (by kernel_rfl) ?_;exact join_end wk h
          ·refine ⟨idx_b (f:=Unknown.toD) hii34,Unknown.toD x37,hxi34,rfl,?_⟩;refine ⟨x37.Data,rfl,?_⟩;obtain ⟨v45,g46,h⟩:=bind_inv h;refine ⟨geti_b (f:=Unknown.toD) g46,Unknown.toD v45,geti_d (f:=Unknown.toD) g46,rfl,?_⟩;refine ⟨v45.Data,rfl,?_⟩;(conv=>whnf);refine cOB (by kernel_rfl) ?_;exact join_end wk h
        ·rintro v39 h;(conv=>whnf);refine .go ?_;revert h;refine sel_if ?_ ?_<;>intro h
         ·cases h;exact ⟨rfl,rfl⟩
         ·refine ⟨_,hwi34,?_⟩;exact hK38 _ _ wk h
      ·rintro _ h;cases h;exact ⟨rfl,rfl⟩
theorem ref23_SameRoute_ok {a0:Route} {a1:Route} {r:Bool} (h:ref23_SameRoute a0 a1=some r):CallsOK Tryz.prog 14 [AV.d (Route.toD a0),AV.d (Route.toD a1)] [] (.d (D.b r)) []:=by
 refine ok Tryz.f14 (by kernel_rfl) (by kernel_rfl) ⟨rfl,?_⟩;unfold ref23_SameRoute at h;revert h;refine cut_join (fun v1=>⟨dd 4 (AV.d (D.b v1)::dd 19 ([])),nn 24 ([])⟩) ?_ ?_
 ·intro k2 h;revert h;refine sel_if ?_ ?_<;>intro h
  ·revert h;refine sel_if ?_ ?_<;>intro h
   ·obtain ⟨v3,g4,h⟩:=bind_inv h;refine ⟨_,_,some [],ref23_SameAttrs_ok g4,?_⟩;exact join_end wk h
   ·exact join_end wk h
  ·exact join_end wk h
 ·rintro v1 h;cases h;exact ⟨rfl,rfl⟩
theorem ref29_merged_ok {a0:List Route} {a1:List Route} {r:(List Prefix)} (h:ref29_merged a0 a1=some r):CallsOK Tryz.prog 94 [AV.d (D.l 16 Route.toD a0),AV.d (D.l 16 Route.toD a1)] [] (.d (D.l 4 Prefix.toD r)) []:=by
 refine ok Tryz.f94 (by kernel_rfl) (by kernel_rfl) ⟨rfl,?_⟩;unfold ref29_merged at h;obtain ⟨_,g1,h⟩:=bind_inv h;refine ⟨apnd_b0 (g:=Route.toD) g1,?_⟩;obtain ⟨v2,g3,h⟩:=bind_inv h;refine ⟨rfl,apnd_b (f:=Route.toD) (g:=Route.toD) g3,_,apnd_z (f:=Route.toD) g3,?_⟩;refine ⟨v2.length,by first | exact List.length_map _ | rfl | (simp only [List.length_map];omega),?_⟩;revert h;refine cut_join (fun v4=>⟨dd 5 (AV.own 5 (List.map Prefix.toD v4).length::dd 57 ([])),nn 5 (some (OB.row 50 4 (List.map Prefix.toD v4) false)::nn 57 ([]))⟩) ?_ ?_
 ·intro k5 h;revert h;refine loop_own 11 58 16 false Route.toD rfl (fun i6 v7=>⟨dd 5 (AV.own 5 (List.map Prefix.toD v7).length::dd 7 (AV.own 11 (List.map Route.toD v2).length::AV.d (D.i (v2.length:Int))::AV.d (D.i (i6:Int))::dd 47 ([]))),nn 5 (some (OB.row 50 4 (List.map Prefix.toD v7) false)::nn 5 (some (OB.row 58 16 (List.map Route.toD v2) false)::nn 51 ([])))⟩) ?_ ?_ ?_
  ·exact wk
  ·rintro v7 K8 h;(conv=>whnf);refine .go ?_;(conv=>whnf);refine sel_f lt_f ?_;exact join_end wk h
  ·rintro next9 i6 x10 v7 K8 hii6 hxi6 hwi6 h hK11;(conv=>whnf);refine .go ?_;(conv=>whnf);refine sel_t (lt_t hii6) ?_;revert h;refine cut_join (fun v12=>⟨dd 5 (AV.own 54 (List.map Prefix.toD v12).length::dd 7 (AV.own 11 (List.map Route.toD v2).length::AV.d (D.i (v2.length:Int))::AV.d (D.i (i6:Int))::dd 47 ([]))),nn 11 (some (OB.row 58 16 (List.map Route.toD v2) false)::nn 42 (some (OB.row 50 4 (List.map Prefix.toD v12) false)::nn 8 ([])))⟩) ?_ ?_
   ·intro k13 h;refine ⟨rfl,idx_b (f:=Route.toD) hii6,?_⟩;refine ⟨rfl,Route.toD x10,hxi6,?_⟩;revert h;refine cut_join (fun v14=>⟨dd 5 (AV.own 5 (List.map Prefix.toD v7).length::X::AV.ref 7 0::AV.d (D.i v14)::dd 4 (AV.own 11 (List.map Route.toD v2).length::AV.d (D.i (v2.length:Int))::AV.d (D.i (i6:Int))::dd 47 ([]))),nn 5 (some (OB.row 50 4 (List.map Prefix.toD v7) false)::N::some (OB.box (Route.av x10))::N::N::N::some (OB.row 58 16 (List.map Route.toD v2) false)::nn 51 ([]))⟩) ?_ ?_
    ·intro k15 h;revert h;refine loop_while (fun v16=>⟨dd 5 (AV.own 5 (List.map Prefix.toD v7).length::X::AV.ref 7 0::AV.d (D.i v16)::dd 4 (AV.own 11 (List.map Route.toD v2).length::AV.d (D.i (v2.length:Int))::AV.d (D.i (i6:Int))::dd 47 ([]))),nn 5 (some (OB.row 50 4 (List.map Prefix.toD v7) false)::N::some (OB.box (Route.av x10))::N::N::N::some (OB.row 58 16 (List.map Route.toD v2) false)::nn 51 ([]))⟩) ?_ ?_
     ·exact wk
     rintro next17 v16 K18 h hK19;revert h;refine cut_join (fun v20=>⟨dd 5 (AV.own 5 (List.map Prefix.toD v7).length::X::AV.ref 7 0::AV.d (D.i v16)::dd 4 (AV.own 11 (List.map Route.toD v2).length::AV.d (D.i (v2.length:Int))::AV.d (D.i (i6:Int))::dd 16 (AV.d (D.b v20)::dd 30 ([])))),nn 5 (some (OB.row 50 4 (List.map Prefix.toD v7) false)::N::some (OB.box (Route.av x10))::N::N::N::some (OB.row 58 16 (List.map Route.toD v2) false)::nn 51 ([]))⟩) ?_ ?_
     ·intro k21 h;(conv=>whnf);refine dOB (by kernel_rfl) ?_;refine ⟨v7.length,by first | exact List.length_map _ | rfl | (simp only [List.length_map];omega),?_⟩;revert h;refine sel_if ?_ ?_<;>intro h
      ·obtain ⟨v22,g23,h⟩:=bind_inv h;refine ⟨rfl,geti_b (f:=Prefix.toD) g23,?_⟩;refine ⟨rfl,Prefix.toD v22,(geti_d (f:=Prefix.toD) g23),?_⟩;obtain ⟨v24,g25,h⟩:=bind_inv h;refine ⟨_,_,ref02_Cmp_ok g25,.inl rfl,?_⟩;(conv=>whnf);refine cOB (by kernel_rfl) ?_;exact join_end wk h
      ·(conv=>whnf);refine cOB (by kernel_rfl) ?_;exact join_end wk h
     ·rintro v20 h;(conv=>whnf);refine .go ?_;revert h;refine sel_if ?_ ?_<;>intro h
      ·(conv=>whnf);refine .go ?_;refine ⟨_,rfl,?_⟩;exact hK19 _ _ wk h
      ·exact join_end wk h
    ·rintro v14 h;revert h;refine cut_join (fun v26=>⟨dd 5 (AV.own 5 (List.map Prefix.toD v7).length::X::AV.ref 7 0::AV.d (D.i v14)::dd 4 (AV.own 11 (List.map Route.toD v2).length::AV.d (D.i (v2.length:Int))::AV.d (D.i (i6:Int))::dd 31 (AV.d (D.b v26)::dd 15 ([])))),nn 5 (some (OB.row 50 4 (List.map Prefix.toD v7) false)::N::some (OB.box (Route.av x10))::N::N::N::some (OB.row 58 16 (List.map Route.toD v2) false)::nn 51 ([]))⟩) ?_ ?_
     ·intro k27 h;(conv=>whnf);refine dOB (by kernel_rfl) ?_;refine ⟨v7.length,by first | exact List.length_map _ | rfl | (simp only [List.length_map];omega),?_⟩;revert h;refine sel_if ?_ ?_<;>intro h
      ·(conv=>whnf);refine cOB (by kernel_rfl) ?_;exact join_end wk h
      ·obtain ⟨v28,g29,h⟩:=bind_inv h;refine ⟨rfl,geti_b (f:=Prefix.toD) g29,?_⟩;refine ⟨rfl,Prefix.toD v28,(geti_d (f:=Prefix.toD) g29),?_⟩;(conv=>whnf);refine cOB (by kernel_rfl) ?_;exact join_end wk h
     ·rintro v26 h;revert h;refine cut_join (fun v30=>⟨dd 5 (AV.own 54 (List.map Prefix.toD v30).length::dd 7 (AV.own 11 (List.map Route.toD v2).length::AV.d (D.i (v2.length:Int))::AV.d (D.i (i6:Int))::dd 47 ([]))),nn 11 (some (OB.row 58 16 (List.map Route.toD v2) false)::nn 42 (some (OB.row 50 4 (List.map Prefix.toD v30) false)::nn 8 ([])))⟩) ?_ ?_
      ·intro k31 h;revert h;refine sel_if ?_ ?_<;>intro h
       ·(conv=>whnf);refine .inr (.inl ?_);obtain ⟨_,g32,h⟩:=bind_inv h;refine ⟨view_b0 (f:=Prefix.toD) g32,rfl,(Int.toNat v14),(Int.toNat (v7.length:Int) - Int.toNat v14),rfl,(by rw [List.length_map]),?_⟩;refine ⟨(by first | rfl | (simp only [List.length_map,List.length_set];omega)),List.map Prefix.toD (List.take (Int.toNat (v7.length:Int) - Int.toNat v14) (List.drop (Int.toNat v14) v7)),view_z,?_⟩;obtain ⟨_,g33,h⟩:=bind_inv h;refine ⟨apnd_b0 (g:=Prefix.toD) g33,?_⟩;(conv=>whnf);refine dOB (by kernel_rfl) ?_;(conv=>whnf);refine .inr (.inr ?_);obtain ⟨v34,g35,h⟩:=bind_inv h;refine ⟨move_b (f:=Prefix.toD) g35,rfl,_,part_z (f:=Prefix.toD) g35,?_⟩;refine ⟨rfl,?_⟩;obtain ⟨v36,g37,h⟩:=bind_inv h;refine ⟨rfl,apnd_b (f:=Prefix.toD) (g:=Prefix.toD) g37,_,apnd_z (f:=Prefix.toD) g37,?_⟩;refine ⟨rfl,?_⟩;obtain ⟨v38,g39,h⟩:=bind_inv h;refine ⟨rfl,apnd_b (f:=Prefix.toD) (g:=Prefix.toD) g39,_,apnd_z (f:=Prefix.toD) g39,?_⟩;(conv=>whnf);refine cOB (by kernel_rfl) ?_;exact join_end wk h
       ·exact join_end (.swap 5 54 rfl rfl rfl wk) h
      ·rintro v30 h;exact join_end wk h
   ·rintro v12 h;refine ⟨_,hwi6,?_⟩;exact hK11 _ _ (.swap 54 5 rfl rfl rfl wk) h
 ·rintro v4 h;(conv=>whnf);refine .inl ?_;refine ⟨rfl,?_⟩;cases h;exact ⟨rfl,rfl⟩
theorem ref29_find_ok {a0:List Route} {a1:Prefix} {r:Route×Bool} (h:ref29_find a0 a1=some r):CallsOK Tryz.prog 95 [AV.d (D.l 16 Route.toD a0),AV.d (Prefix.toD a1)] [] (.tup [.d (Route.toD r.1),.d (D.b r.2)]) []:=by
 refine ok Tryz.f95 (by kernel_rfl) (by kernel_rfl) ⟨rfl,?_⟩;unfold ref29_find at h;refine ⟨a0.length,List.length_map _,?_⟩;revert h;refine cut_join (fun _=>⟨dd 4 (AV.ref 4 0::dd 16 ([])),nn 4 (some (OB.box Route.zv)::nn 16 ([]))⟩) ?_ ?_
 ·intro k1 h;revert h;refine loop_for 8 16 Route.toD rfl (fun i2 _=>⟨X::X::X::AV.ref 3 0::AV.ref 4 0::X::X::X::AV.d (D.l 16 Route.toD a0)::AV.d (D.i (a0.length:Int))::AV.d (D.i (i2:Int))::dd 10 ([]),N::N::N::some (OB.box (Prefix.av a1))::some (OB.box Route.zv)::nn 16 ([])⟩) ?_ ?_ ?_
  ·exact wk
  ·rintro _ K3 h;(conv=>whnf);refine .go ?_;(conv=>whnf);refine sel_f lt_f ?_;exact join_end wk h
  ·rintro next4 i2 x5 _ K3 hii2 hxi2 hwi2 h hK6;(conv=>whnf);refine .go ?_;(conv=>whnf);refine sel_t (lt_t hii2) ?_;(conv=>whnf);refine .go ?_;refine ⟨idx_b (f:=Route.toD) hii2,Route.toD x5,hxi2,rfl,?_⟩;(conv=>whnf);refine .go ?_;revert h;refine sel_if ?_ ?_<;>intro h
   ·cases h;exact ⟨rfl,rfl⟩
   ·refine ⟨_,hwi2,?_⟩;exact hK6 _ _ wk h
 ·rintro _ h;cases h;exact ⟨rfl,rfl⟩
theorem ref23_CopyRoutes_ok {a0:List Route} {r:(List Route)} (h:ref23_CopyRoutes a0=some r):CallsOK Tryz.prog 96 [AV.d (D.l 16 Route.toD a0)] [] (.d (D.l 16 Route.toD r)) []:=by
 refine ok Tryz.f96 (by kernel_rfl) (by kernel_rfl) ⟨rfl,?_⟩;unfold ref23_CopyRoutes at h;refine ⟨a0.length,List.length_map _,?_⟩;revert h;refine cut_join (fun v1=>⟨X::X::X::AV.own 3 (List.map Route.toD v1).length::dd 21 ([]),N::N::N::some (OB.row 58 16 (List.map Route.toD v1) false)::nn 21 ([])⟩) ?_ ?_
 ·intro k2 h;revert h;refine loop_for 6 16 Route.toD rfl (fun i3 v4=>⟨X::X::X::AV.own 3 (List.map Route.toD v4).length::X::X::AV.d (D.l 16 Route.toD a0)::AV.d (D.i (a0.length:Int))::AV.d (D.i (i3:Int))::dd 16 ([]),N::N::N::some (OB.row 58 16 (List.map Route.toD v4) false)::nn 21 ([])⟩) ?_ ?_ ?_
  ·exact wk
  ·rintro v4 K5 h;(conv=>whnf);refine .go ?_;(conv=>whnf);refine sel_f lt_f ?_;exact join_end wk h
  ·rintro next6 i3 x7 v4 K5 hii3 hxi3 hwi3 h hK8;(conv=>whnf);refine .go ?_;(conv=>whnf);refine sel_t (lt_t hii3) ?_;(conv=>whnf);refine .go ?_;refine ⟨idx_b (f:=Route.toD) hii3,Route.toD x7,hxi3,rfl,?_⟩;(conv=>whnf);refine dOB (by kernel_rfl) ?_;obtain ⟨v9,g10,h⟩:=bind_inv h;refine ⟨_,_,ref23_CopyAttrs_ok g10,.inl rfl,?_⟩;refine ⟨rfl,?_⟩;obtain ⟨v11,g12,h⟩:=bind_inv h;refine ⟨rfl,apnd_b (f:=Route.toD) (g:=Route.toD) g12,_,apnd_z (f:=Route.toD) g12,?_⟩;(conv=>whnf);refine cOB (by kernel_rfl) ?_;refine ⟨_,hwi3,?_⟩;exact hK8 _ _ wk h
 ·rintro v1 h;(conv=>whnf);refine .inl ?_;refine ⟨rfl,?_⟩;cases h;exact ⟨rfl,rfl⟩
end Go.AX.Q35
end
