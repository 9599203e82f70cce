/-
  Texts of one proof, packed: Q35P16 Q35P17.
-/
import Derived.Test.YtgibfgaaoopieaaGreatK4
set_option linter.all false
section
namespace Go.AX.Q35
open Go Go.AX Go.Proofs
set_option maxRecDepth 100000
set_option maxHeartbeats 4000000
set_option linter.unusedVariables false
theorem ref29_Diff_ok {a0:Int} {a1:List Route} {a2:List Route} {r:(List Change)} (h:ref29_Diff a0 a1 a2=some r):CallsOK Tryz.prog 67 [AV.d (D.i a0),AV.d (D.l 16 Route.toD a1),AV.d (D.l 16 Route.toD a2)] [] (.d (D.l 22 Change.toD r)) []:=by
 refine ok Tryz.f67 (by kernel_rfl) (by kernel_rfl) ⟨rfl,?_⟩;unfold ref29_Diff at h;obtain ⟨v1,g2,h⟩:=bind_inv h;refine ⟨_,_,some [],ref29_merged_ok g2,?_⟩;refine ⟨v1.length,List.length_map _,?_⟩;revert h;refine cut_join (fun v3=>⟨dd 7 (AV.own 7 (List.map Change.toD v3).length::dd 52 ([])),nn 7 (some (OB.row 188 22 (List.map Change.toD v3) false)::nn 52 ([]))⟩) ?_ ?_
 ·intro k4 h;revert h;refine loop_for 17 4 Prefix.toD rfl (fun i5 v6=>⟨AV.d (D.i a0)::AV.d (D.l 16 Route.toD a1)::AV.d (D.l 16 Route.toD a2)::dd 4 (AV.own 7 (List.map Change.toD v6).length::dd 9 (AV.d (D.l 4 Prefix.toD v1)::AV.d (D.i (v1.length:Int))::AV.d (D.i (i5:Int))::dd 40 ([]))),nn 7 (some (OB.row 188 22 (List.map Change.toD v6) false)::nn 52 ([]))⟩) ?_ ?_ ?_
  ·exact wk
  ·rintro v6 K7 h;(conv=>whnf);refine .go ?_;(conv=>whnf);refine sel_f lt_f ?_;exact join_end wk h
  ·rintro next8 i5 x9 v6 K7 hii5 hxi5 hwi5 h hK10;(conv=>whnf);refine .go ?_;(conv=>whnf);refine sel_t (lt_t hii5) ?_;revert h;refine cut_join (fun v11=>⟨AV.d (D.i a0)::AV.d (D.l 16 Route.toD a1)::AV.d (D.l 16 Route.toD a2)::dd 4 (AV.own 7 (List.map Change.toD v11).length::dd 9 (AV.d (D.l 4 Prefix.toD v1)::AV.d (D.i (v1.length:Int))::AV.d (D.i (i5:Int))::dd 40 ([]))),nn 7 (some (OB.row 188 22 (List.map Change.toD v11) false)::nn 52 ([]))⟩) ?_ ?_
   ·intro k12 h;refine ⟨idx_b (f:=Prefix.toD) hii5,Prefix.toD x9,hxi5,rfl,?_⟩;obtain ⟨⟨v13,v14⟩,g15,h⟩:=bind_inv h;refine ⟨_,_,some [],ref29_find_ok g15,?_⟩;obtain ⟨⟨v16,v17⟩,g18,h⟩:=bind_inv h;refine ⟨_,_,some [],ref29_find_ok g18,?_⟩;revert h;refine cut_join (fun v19=>⟨AV.d (D.i a0)::AV.d (D.l 16 Route.toD a1)::AV.d (D.l 16 Route.toD a2)::dd 4 (AV.own 7 (List.map Change.toD v6).length::X::AV.ref 9 0::X::X::AV.ref 12 0::AV.d (D.b v17)::X::X::X::AV.d (D.l 4 Prefix.toD v1)::AV.d (D.i (v1.length:Int))::AV.d (D.i (i5:Int))::dd 22 (AV.d (D.b v19)::dd 17 ([]))),nn 7 (some (OB.row 188 22 (List.map Change.toD v6) false)::N::some (OB.box (Prefix.av x9))::N::N::some (OB.box (Route.av v16))::nn 47 ([]))⟩) ?_ ?_
    ·intro k20 h;revert h;refine sel_if ?_ ?_<;>intro h
     ·obtain ⟨v21,g22,h⟩:=bind_inv h;refine ⟨_,_,some [],ref23_SameRoute_ok g22,?_⟩;exact join_end wk h
     ·exact join_end wk h
    ·rintro v19 h;(conv=>whnf);refine .go ?_;revert h;refine sel_if ?_ ?_<;>intro h
     ·exact join_end wk h
     ·revert h;refine cut_join (fun v23=>⟨AV.d (D.i a0)::AV.d (D.l 16 Route.toD a1)::AV.d (D.l 16 Route.toD a2)::dd 4 (AV.own 7 (List.map Change.toD v6).length::dd 6 (AV.ref 14 0::X::X::AV.d (D.l 4 Prefix.toD v1)::AV.d (D.i (v1.length:Int))::AV.d (D.i (i5:Int))::dd 40 ([]))),nn 7 (some (OB.row 188 22 (List.map Change.toD v6) false)::nn 6 (some (OB.box (Change.av v23))::nn 45 ([])))⟩) ?_ ?_
      ·intro k24 h;revert h;refine sel_if ?_ ?_<;>intro h
       ·refine ⟨rfl,?_⟩;obtain ⟨v25,g26,h⟩:=bind_inv h;refine ⟨_,_,some [],ref23_CopyRoutes_ok g26,?_⟩;obtain ⟨v27,g28,h⟩:=bind_inv h;refine ⟨geti_b (f:=Route.toD) g28,Route.toD v27,geti_d (f:=Route.toD) g28,rfl,?_⟩;exact join_end wk h
       ·exact join_end wk h
      ·rintro v23 h;refine ⟨rfl,?_⟩;obtain ⟨v29,g30,h⟩:=bind_inv h;refine ⟨rfl,apnd_b (f:=Change.toD) (g:=Change.toD) g30,_,apnd_z (f:=Change.toD) g30,?_⟩;exact join_end wk h
   ·rintro v11 h;refine ⟨_,hwi5,?_⟩;exact hK10 _ _ wk h
 ·rintro v3 h;(conv=>whnf);refine .inl ?_;refine ⟨rfl,?_⟩;cases h;exact ⟨rfl,rfl⟩
theorem ref29_Apply_ok {a0:Cache} {a1:Record} {r:Cache×(List Change)×Int} (h:ref29_Apply a0 a1=some r):CallsOK Tryz.prog 40 [AV.d (Cache.toD a0),AV.d (Record.toD a1)] [] (.tup [.d (Cache.toD r.1),.d (D.l 22 Change.toD r.2.1),.d (D.i r.2.2)]) []:=by
 refine ok Tryz.f40 (by kernel_rfl) (by kernel_rfl) ⟨rfl,?_⟩;unfold ref29_Apply at h;obtain ⟨v1,g2,h⟩:=bind_inv h;refine ⟨_,_,some [16,146],ref28_Copy_ok g2,?_⟩;refine ⟨rfl,?_⟩;refine ⟨rfl,?_⟩;obtain ⟨v3,g4,h⟩:=bind_inv h;refine ⟨_,_,none,ref28_At_ok g4,?_⟩;(conv=>whnf);refine .go ?_;revert h;refine sel_if ?_ ?_<;>intro h
 ·cases h;exact ⟨rfl,rfl⟩
 ·(conv=>whnf);refine .go ?_;revert h;refine cut_join (fun (v5,v6,v7)=>⟨X::X::AV.ref 2 0::X::AV.ref 4 0::X::X::AV.ref 7 0::X::AV.d (D.i v5)::dd 137 ([]),N::N::some (OB.box (Cache.av a0))::N::some (OB.box Cache.zv)::N::N::some (OB.box [AV.d (D.i v1.Filter.Own),AV.d (D.l 4 Prefix.toD v1.Filter.LANs),AV.d (D.i v1.Filter.Min4),AV.d (D.i v1.Filter.Max4),AV.d (D.i v1.Filter.Min6),AV.d (D.i v1.Filter.Max6),AV.d (D.i v1.Filter.Hole4),AV.d (D.i v1.Filter.Hole6),AV.d (D.l 4 Prefix.toD v1.Filter.Bogons),AV.d (D.l 2 Span.toD v1.Filter.Private),AV.d (D.l 1 D.i v1.Filter.Free),AV.d (D.i v1.Filter.Hops),AV.d (D.l 3 Set.toD v1.Filter.Registry.Sets),AV.d (D.l 6 Object.toD v1.Filter.Registry.Objects),AV.d (D.l 6 Object.toD v1.Filter.Origins),AV.own 16 (List.map Policy.toD v6).length,AV.own 146 (List.map RIB.toD v7).length])::nn 8 (some (OB.row 42 7 (List.map Policy.toD v6) false)::nn 129 (some (OB.row 73 8 (List.map RIB.toD v7) false)::[]))⟩) ?_ ?_
  ·intro k8 h;revert h;refine sel_if ?_ ?_<;>intro h
   ·(conv=>whnf);refine dOB (by kernel_rfl) ?_;obtain ⟨v9,g10,h⟩:=bind_inv h;refine ⟨rfl,geti_b (f:=RIB.toD) g10,?_⟩;refine ⟨rfl,RIB.toD v9,(geti_d (f:=RIB.toD) g10),?_⟩;obtain ⟨⟨v11,v12⟩,g13,h⟩:=bind_inv h;refine ⟨_,_,ref25_Apply_ok g13,.inl rfl,?_⟩;obtain ⟨v14,g15,h⟩:=bind_inv h;refine ⟨rfl,geti_b (f:=RIB.toD) g15,?_⟩;obtain ⟨v16,g17,h⟩:=bind_inv h;have g17l:=seti_len g17;refine ⟨rfl,rfl,RIB.toD v14,(geti_d (f:=RIB.toD) g15),?_⟩;refine ⟨_,seti_z (f:=RIB.toD) g17,?_⟩;(conv=>whnf);refine cOB (by kernel_rfl) ?_;exact join_end wk h
   ·revert h;refine cut_join (fun (v18,v19,v20)=>⟨X::X::AV.ref 2 0::X::AV.ref 4 0::X::X::AV.ref 7 0::X::AV.d (D.i v18)::dd 137 ([]),N::N::some (OB.box (Cache.av a0))::N::some (OB.box Cache.zv)::N::N::some (OB.box [AV.d (D.i v1.Filter.Own),AV.d (D.l 4 Prefix.toD v1.Filter.LANs),AV.d (D.i v1.Filter.Min4),AV.d (D.i v1.Filter.Max4),AV.d (D.i v1.Filter.Min6),AV.d (D.i v1.Filter.Max6),AV.d (D.i v1.Filter.Hole4),AV.d (D.i v1.Filter.Hole6),AV.d (D.l 4 Prefix.toD v1.Filter.Bogons),AV.d (D.l 2 Span.toD v1.Filter.Private),AV.d (D.l 1 D.i v1.Filter.Free),AV.d (D.i v1.Filter.Hops),AV.d (D.l 3 Set.toD v1.Filter.Registry.Sets),AV.d (D.l 6 Object.toD v1.Filter.Registry.Objects),AV.d (D.l 6 Object.toD v1.Filter.Origins),AV.own 16 (List.map Policy.toD v19).length,AV.own 146 (List.map RIB.toD v20).length])::nn 8 (some (OB.row 42 7 (List.map Policy.toD v19) false)::nn 129 (some (OB.row 73 8 (List.map RIB.toD v20) false)::[]))⟩) ?_ ?_
    ·intro k21 h;revert h;refine sel_if ?_ ?_<;>intro h
     ·(conv=>whnf);refine dOB (by kernel_rfl) ?_;obtain ⟨v22,g23,h⟩:=bind_inv h;refine ⟨rfl,geti_b (f:=RIB.toD) g23,?_⟩;refine ⟨rfl,RIB.toD v22,(geti_d (f:=RIB.toD) g23),?_⟩;obtain ⟨⟨v24,v25⟩,g26,h⟩:=bind_inv h;refine ⟨_,_,ref25_Raise_ok g26,.inl rfl,?_⟩;obtain ⟨v27,g28,h⟩:=bind_inv h;refine ⟨rfl,geti_b (f:=RIB.toD) g28,?_⟩;obtain ⟨v29,g30,h⟩:=bind_inv h;have g30l:=seti_len g30;refine ⟨rfl,rfl,RIB.toD v27,(geti_d (f:=RIB.toD) g28),?_⟩;refine ⟨_,seti_z (f:=RIB.toD) g30,?_⟩;(conv=>whnf);refine cOB (by kernel_rfl) ?_;exact join_end wk h
     ·revert h;refine cut_join (fun (v31,v32,v33)=>⟨X::X::AV.ref 2 0::X::AV.ref 4 0::X::X::AV.ref 7 0::X::AV.d (D.i v31)::dd 137 ([]),N::N::some (OB.box (Cache.av a0))::N::some (OB.box Cache.zv)::N::N::some (OB.box [AV.d (D.i v1.Filter.Own),AV.d (D.l 4 Prefix.toD v1.Filter.LANs),AV.d (D.i v1.Filter.Min4),AV.d (D.i v1.Filter.Max4),AV.d (D.i v1.Filter.Min6),AV.d (D.i v1.Filter.Max6),AV.d (D.i v1.Filter.Hole4),AV.d (D.i v1.Filter.Hole6),AV.d (D.l 4 Prefix.toD v1.Filter.Bogons),AV.d (D.l 2 Span.toD v1.Filter.Private),AV.d (D.l 1 D.i v1.Filter.Free),AV.d (D.i v1.Filter.Hops),AV.d (D.l 3 Set.toD v1.Filter.Registry.Sets),AV.d (D.l 6 Object.toD v1.Filter.Registry.Objects),AV.d (D.l 6 Object.toD v1.Filter.Origins),AV.own 16 (List.map Policy.toD v32).length,AV.own 146 (List.map RIB.toD v33).length])::nn 8 (some (OB.row 42 7 (List.map Policy.toD v32) false)::nn 129 (some (OB.row 73 8 (List.map RIB.toD v33) false)::[]))⟩) ?_ ?_
      ·intro k34 h;revert h;refine sel_if ?_ ?_<;>intro h
       ·(conv=>whnf);refine dOB (by kernel_rfl) ?_;obtain ⟨v35,g36,h⟩:=bind_inv h;refine ⟨rfl,geti_b (f:=RIB.toD) g36,?_⟩;refine ⟨rfl,RIB.toD v35,(geti_d (f:=RIB.toD) g36),?_⟩;obtain ⟨⟨v37,v38⟩,g39,h⟩:=bind_inv h;refine ⟨_,_,ref25_Down_ok g39,.inl rfl,?_⟩;obtain ⟨v40,g41,h⟩:=bind_inv h;refine ⟨rfl,geti_b (f:=RIB.toD) g41,?_⟩;obtain ⟨v42,g43,h⟩:=bind_inv h;have g43l:=seti_len g43;refine ⟨rfl,rfl,RIB.toD v40,(geti_d (f:=RIB.toD) g41),?_⟩;refine ⟨_,seti_z (f:=RIB.toD) g43,?_⟩;(conv=>whnf);refine cOB (by kernel_rfl) ?_;exact join_end wk h
       ·revert h;refine cut_join (fun (v44,v45,v46)=>⟨X::X::AV.ref 2 0::X::AV.ref 4 0::X::X::AV.ref 7 0::X::AV.d (D.i v44)::dd 137 ([]),N::N::some (OB.box (Cache.av a0))::N::some (OB.box Cache.zv)::N::N::some (OB.box [AV.d (D.i v1.Filter.Own),AV.d (D.l 4 Prefix.toD v1.Filter.LANs),AV.d (D.i v1.Filter.Min4),AV.d (D.i v1.Filter.Max4),AV.d (D.i v1.Filter.Min6),AV.d (D.i v1.Filter.Max6),AV.d (D.i v1.Filter.Hole4),AV.d (D.i v1.Filter.Hole6),AV.d (D.l 4 Prefix.toD v1.Filter.Bogons),AV.d (D.l 2 Span.toD v1.Filter.Private),AV.d (D.l 1 D.i v1.Filter.Free),AV.d (D.i v1.Filter.Hops),AV.d (D.l 3 Set.toD v1.Filter.Registry.Sets),AV.d (D.l 6 Object.toD v1.Filter.Registry.Objects),AV.d (D.l 6 Object.toD v1.Filter.Origins),AV.own 16 (List.map Policy.toD v45).length,AV.own 146 (List.map RIB.toD v46).length])::nn 8 (some (OB.row 42 7 (List.map Policy.toD v45) false)::nn 129 (some (OB.row 73 8 (List.map RIB.toD v46) false)::[]))⟩) ?_ ?_
        ·intro k47 h;revert h;refine sel_if ?_ ?_<;>intro h
         ·obtain ⟨v48,g49,h⟩:=bind_inv h;refine ⟨_,_,some [],ref26_Check_ok g49,?_⟩;revert h;refine cut_join (fun v50=>⟨X::X::AV.ref 2 0::AV.ref 3 0::AV.ref 4 0::X::X::AV.ref 7 0::AV.d (D.i v3)::AV.d (D.i v48)::dd 83 (AV.d (D.b v50)::dd 53 ([])),N::N::some (OB.box (Cache.av a0))::some (OB.box (Record.av a1))::some (OB.box Cache.zv)::N::N::some (OB.box [AV.d (D.i v1.Filter.Own),AV.d (D.l 4 Prefix.toD v1.Filter.LANs),AV.d (D.i v1.Filter.Min4),AV.d (D.i v1.Filter.Max4),AV.d (D.i v1.Filter.Min6),AV.d (D.i v1.Filter.Max6),AV.d (D.i v1.Filter.Hole4),AV.d (D.i v1.Filter.Hole6),AV.d (D.l 4 Prefix.toD v1.Filter.Bogons),AV.d (D.l 2 Span.toD v1.Filter.Private),AV.d (D.l 1 D.i v1.Filter.Free),AV.d (D.i v1.Filter.Hops),AV.d (D.l 3 Set.toD v1.Filter.Registry.Sets),AV.d (D.l 6 Object.toD v1.Filter.Registry.Objects),AV.d (D.l 6 Object.toD v1.Filter.Origins),AV.own 16 (List.map Policy.toD v1.Policies).length,AV.own 146 (List.map RIB.toD v1.RIBs).length])::nn 8 (some (OB.row 42 7 (List.map Policy.toD v1.Policies) false)::nn 129 (some (OB.row 73 8 (List.map RIB.toD v1.RIBs) false)::[]))⟩) ?_ ?_
          ·intro k51 h;revert h;refine sel_if ?_ ?_<;>intro h
           ·exact join_end wk h
           ·exact join_end wk h
          ·rintro v50 h;revert h;refine cut_join (fun v52=>⟨X::X::AV.ref 2 0::AV.ref 3 0::AV.ref 4 0::X::X::AV.ref 7 0::AV.d (D.i v3)::AV.d (D.i v52)::dd 137 ([]),N::N::some (OB.box (Cache.av a0))::some (OB.box (Record.av a1))::some (OB.box Cache.zv)::N::N::some (OB.box [AV.d (D.i v1.Filter.Own),AV.d (D.l 4 Prefix.toD v1.Filter.LANs),AV.d (D.i v1.Filter.Min4),AV.d (D.i v1.Filter.Max4),AV.d (D.i v1.Filter.Min6),AV.d (D.i v1.Filter.Max6),AV.d (D.i v1.Filter.Hole4),AV.d (D.i v1.Filter.Hole6),AV.d (D.l 4 Prefix.toD v1.Filter.Bogons),AV.d (D.l 2 Span.toD v1.Filter.Private),AV.d (D.l 1 D.i v1.Filter.Free),AV.d (D.i v1.Filter.Hops),AV.d (D.l 3 Set.toD v1.Filter.Registry.Sets),AV.d (D.l 6 Object.toD v1.Filter.Registry.Objects),AV.d (D.l 6 Object.toD v1.Filter.Origins),AV.own 16 (List.map Policy.toD v1.Policies).length,AV.own 146 (List.map RIB.toD v1.RIBs).length])::nn 8 (some (OB.row 42 7 (List.map Policy.toD v1.Policies) false)::nn 129 (some (OB.row 73 8 (List.map RIB.toD v1.RIBs) false)::[]))⟩) ?_ ?_
           ·intro k53 h;revert h;refine sel_if ?_ ?_<;>intro h
            ·exact join_end wk h
            ·exact join_end wk h
           ·rintro v52 h;(conv=>whnf);refine dOB (by kernel_rfl) ?_;obtain ⟨v54,g55,h⟩:=bind_inv h;refine ⟨_,_,ref26_Copy_ok g55,.inl rfl,?_⟩;obtain ⟨v56,g57,h⟩:=bind_inv h;refine ⟨rfl,geti_b (f:=Policy.toD) g57,?_⟩;obtain ⟨v58,g59,h⟩:=bind_inv h;have g59l:=seti_len g59;refine ⟨rfl,rfl,Policy.toD v56,(geti_d (f:=Policy.toD) g57),?_⟩;refine ⟨_,seti_z (f:=Policy.toD) g59,?_⟩;(conv=>whnf);refine cOB (by kernel_rfl) ?_;exact join_end wk h
         ·revert h;refine cut_join (fun (v60,v61)=>⟨X::X::AV.ref 2 0::X::AV.ref 4 0::X::X::AV.ref 7 0::X::AV.d (D.i v60)::dd 137 ([]),N::N::some (OB.box (Cache.av a0))::N::some (OB.box Cache.zv)::N::N::some (OB.box [AV.d (D.i v1.Filter.Own),AV.d (D.l 4 Prefix.toD v1.Filter.LANs),AV.d (D.i v1.Filter.Min4),AV.d (D.i v1.Filter.Max4),AV.d (D.i v1.Filter.Min6),AV.d (D.i v1.Filter.Max6),AV.d (D.i v1.Filter.Hole4),AV.d (D.i v1.Filter.Hole6),AV.d (D.l 4 Prefix.toD v1.Filter.Bogons),AV.d (D.l 2 Span.toD v1.Filter.Private),AV.d (D.l 1 D.i v1.Filter.Free),AV.d (D.i v1.Filter.Hops),AV.d (D.l 3 Set.toD v1.Filter.Registry.Sets),AV.d (D.l 6 Object.toD v1.Filter.Registry.Objects),AV.d (D.l 6 Object.toD v1.Filter.Origins),AV.own 16 (List.map Policy.toD v1.Policies).length,AV.own 146 (List.map RIB.toD v61).length])::nn 8 (some (OB.row 42 7 (List.map Policy.toD v1.Policies) false)::nn 129 (some (OB.row 73 8 (List.map RIB.toD v61) false)::[]))⟩) ?_ ?_
          ·intro k62 h;revert h;refine sel_if ?_ ?_<;>intro h
           ·(conv=>whnf);refine dOB (by kernel_rfl) ?_;obtain ⟨v63,g64,h⟩:=bind_inv h;refine ⟨rfl,geti_b (f:=RIB.toD) g64,?_⟩;refine ⟨rfl,RIB.toD v63,(geti_d (f:=RIB.toD) g64),?_⟩;obtain ⟨v65,g66,h⟩:=bind_inv h;refine ⟨_,_,ref25_Sweep_ok g66,.inl rfl,?_⟩;obtain ⟨v67,g68,h⟩:=bind_inv h;refine ⟨rfl,geti_b (f:=RIB.toD) g68,?_⟩;obtain ⟨v69,g70,h⟩:=bind_inv h;have g70l:=seti_len g70;refine ⟨rfl,rfl,RIB.toD v67,(geti_d (f:=RIB.toD) g68),?_⟩;refine ⟨_,seti_z (f:=RIB.toD) g70,?_⟩;(conv=>whnf);refine cOB (by kernel_rfl) ?_;exact join_end wk h
           ·exact join_end wk h
          ·rintro ⟨v60,v61⟩ h;exact join_end wk h
        ·rintro ⟨v44,v45,v46⟩ h;exact join_end wk h
      ·rintro ⟨v31,v32,v33⟩ h;exact join_end wk h
    ·rintro ⟨v18,v19,v20⟩ h;exact join_end wk h
  ·rintro ⟨v5,v6,v7⟩ h;(conv=>whnf);refine .go ?_;revert h;refine sel_if ?_ ?_<;>intro h
   ·(conv=>whnf);refine .inl ?_;refine ⟨rfl,?_⟩;cases h;exact ⟨rfl,rfl⟩
   ·refine ⟨rfl,?_⟩;refine ⟨rfl,?_⟩;obtain ⟨v71,g72,h⟩:=bind_inv h;refine ⟨_,_,some [],ref29_fill_ok g72,?_⟩;refine ⟨v6.length,by first | exact List.length_map _ | rfl | (simp only [List.length_map];omega),?_⟩;revert h;refine cut_join (fun v73=>⟨dd 4 (AV.ref 4 0::dd 5 (AV.ref 10 0::AV.own 11 (List.map Change.toD v73).length::dd 135 ([]))),nn 4 (some (OB.box Cache.zv)::nn 5 (some (OB.box (Cache.av v71))::some (OB.row 188 22 (List.map Change.toD v73) false)::nn 135 ([])))⟩) ?_ ?_
    ·intro k74 h;revert h;refine loop_own 16 42 7 true Policy.toD rfl (fun i75 v76=>⟨X::X::AV.ref 2 0::X::AV.ref 4 0::dd 5 (AV.ref 10 0::AV.own 11 (List.map Change.toD v76).length::dd 110 (AV.own 16 (List.map Policy.toD v6).length::AV.d (D.i (v6.length:Int))::AV.d (D.i (i75:Int))::dd 22 ([]))),N::N::some (OB.box (Cache.av a0))::N::some (OB.box Cache.zv)::nn 5 (some (OB.box (Cache.av v71))::some (OB.row 188 22 (List.map Change.toD v76) false)::nn 4 (some (OB.row 42 7 (List.map Policy.toD v6) true)::nn 130 ([])))⟩) ?_ ?_ ?_
     ·exact wk
     ·rintro v76 K77 h;(conv=>whnf);refine .go ?_;(conv=>whnf);refine sel_f lt_f ?_;exact join_end wk h
     ·rintro next78 i75 x79 v76 K77 hii75 hxi75 hwi75 h hK80;(conv=>whnf);refine .go ?_;(conv=>whnf);refine sel_t (lt_t hii75) ?_;(conv=>whnf);refine .go ?_;refine ⟨rfl,idx_b (f:=Policy.toD) hii75,?_⟩;refine ⟨rfl,Policy.toD x79,hxi75,?_⟩;(conv=>whnf);refine dOB (by kernel_rfl) ?_;obtain ⟨v81,g82,h⟩:=bind_inv h;refine ⟨geti_b (f:=(D.l 16 Route.toD)) g82,(D.l 16 Route.toD) v81,geti_d (f:=(D.l 16 Route.toD)) g82,rfl,?_⟩;obtain ⟨v83,g84,h⟩:=bind_inv h;refine ⟨geti_b (f:=(D.l 16 Route.toD)) g84,(D.l 16 Route.toD) v83,geti_d (f:=(D.l 16 Route.toD)) g84,rfl,?_⟩;obtain ⟨v85,g86,h⟩:=bind_inv h;refine ⟨_,_,ref29_Diff_ok g86,.inl rfl,?_⟩;obtain ⟨v87,g88,h⟩:=bind_inv h;refine ⟨rfl,apnd_b (f:=Change.toD) (g:=Change.toD) g88,_,apnd_z (f:=Change.toD) g88,?_⟩;(conv=>whnf);refine cOB (by kernel_rfl) ?_;refine ⟨_,hwi75,?_⟩;exact hK80 _ _ wk h
    ·rintro v73 h;(conv=>whnf);refine .inl ?_;refine ⟨rfl,?_⟩;cases h;exact ⟨rfl,rfl⟩
theorem mill_Deck_Cache_ok {a0:Deck} {r:Cache×(List Record)×Server×Deck} (h:mill_Deck_Cache a0=some r):CallsOK Tryz.prog 22 [.ref 0 0] [.box (Deck.av a0)] (.tup [.d (Cache.toD r.1),.d (D.l 24 Record.toD r.2.1),.d (Server.toD r.2.2.1)]) [.box (Deck.av r.2.2.2)]:=by
 refine ok Tryz.f22 (by kernel_rfl) (by kernel_rfl) ⟨rfl,?_⟩;unfold mill_Deck_Cache at h;obtain ⟨⟨v1,v2⟩,g3,h⟩:=bind_inv h;refine ⟨_,_,some [],mill_Deck_Start_ok g3,?_⟩;obtain ⟨⟨v4,v5⟩,g6,h⟩:=bind_inv h;refine ⟨_,_,some [],ref29_Begin_ok g6,?_⟩;obtain ⟨⟨v7,v8⟩,g9,h⟩:=bind_inv h;refine ⟨_,_,some [],mill_Deck_Next_ok g9,?_⟩;refine ⟨_,rfl,?_⟩;revert h;refine cut_join (fun (v10,v11,v12)=>⟨X::X::AV.ref 3 0::X::AV.ref 5 0::AV.ref 6 0::AV.ref 7 0::X::AV.own 9 (List.map Record.toD v12).length::dd 44 ([]),some (OB.box (Deck.av v10))::N::N::some (OB.box Cache.zv)::N::some (OB.box Server.zv)::some (OB.box (Server.av v1))::some (OB.box (Cache.av v11))::N::some (OB.row 114 24 (List.map Record.toD v12) false)::nn 44 ([])⟩) ?_ ?_
 ·intro k13 h;revert h;refine loop_while (fun (v14,v15,v16,v17)=>⟨AV.ref 0 0::X::AV.ref 3 0::X::AV.ref 5 0::AV.ref 6 0::AV.ref 7 0::X::AV.own 9 (List.map Record.toD v17).length::AV.d (D.i v14)::dd 43 ([]),some (OB.box (Deck.av v15))::N::N::some (OB.box Cache.zv)::N::some (OB.box Server.zv)::some (OB.box (Server.av v1))::some (OB.box (Cache.av v16))::N::some (OB.row 114 24 (List.map Record.toD v17) false)::nn 44 ([])⟩) ?_ ?_
  ·exact wk
  rintro next18 ⟨v14,v15,v16,v17⟩ K19 h hK20;revert h;refine cut_join (fun (v21,v22)=>⟨AV.ref 0 0::X::AV.ref 3 0::X::AV.ref 5 0::AV.ref 6 0::AV.ref 7 0::X::AV.own 9 (List.map Record.toD v17).length::AV.d (D.i v14)::dd 19 (AV.d (D.b v21)::dd 23 ([])),some (OB.box (Deck.av v22))::N::N::some (OB.box Cache.zv)::N::some (OB.box Server.zv)::some (OB.box (Server.av v1))::some (OB.box (Cache.av v16))::N::some (OB.row 114 24 (List.map Record.toD v17) false)::nn 44 ([])⟩) ?_ ?_
  ·intro k23 h;revert h;refine sel_if ?_ ?_<;>intro h
   ·obtain ⟨⟨v24,v25⟩,g26,h⟩:=bind_inv h;refine ⟨_,_,some [],mill_Deck_Left_ok g26,?_⟩;exact join_end wk h
   ·exact join_end wk h
  ·rintro ⟨v21,v22⟩ h;(conv=>whnf);refine .go ?_;revert h;refine sel_if ?_ ?_<;>intro h
   ·(conv=>whnf);refine .go ?_;obtain ⟨⟨v27,v28⟩,g29,h⟩:=bind_inv h;refine ⟨_,_,some [],mill_Deck_Record_ok g29,?_⟩;obtain ⟨⟨v30,v31,v32⟩,g33,h⟩:=bind_inv h;refine ⟨_,_,some [],ref29_Apply_ok g33,?_⟩;revert h;refine cut_join (fun (v34,v35)=>⟨AV.ref 0 0::X::AV.ref 3 0::X::AV.ref 5 0::AV.ref 6 0::AV.ref 7 0::X::AV.own 9 (List.map Record.toD v35).length::AV.d (D.i v14)::dd 43 ([]),some (OB.box (Deck.av v28))::N::N::some (OB.box Cache.zv)::N::some (OB.box Server.zv)::some (OB.box (Server.av v1))::some (OB.box (Cache.av v34))::N::some (OB.row 114 24 (List.map Record.toD v35) false)::nn 44 ([])⟩) ?_ ?_
    ·intro k36 h;revert h;refine sel_if ?_ ?_<;>intro h
     ·refine ⟨rfl,?_⟩;obtain ⟨v37,g38,h⟩:=bind_inv h;refine ⟨rfl,apnd_b (f:=Record.toD) (g:=Record.toD) g38,_,apnd_z (f:=Record.toD) g38,?_⟩;exact join_end wk h
     ·exact join_end wk h
    ·rintro ⟨v34,v35⟩ h;refine ⟨_,rfl,?_⟩;exact hK20 _ _ wk h
   ·exact join_end wk h
 ·rintro ⟨v10,v11,v12⟩ h;(conv=>whnf);refine dOB (by kernel_rfl) ?_;(conv=>whnf);refine cOB (by kernel_rfl) ?_;(conv=>whnf);refine .inl ?_;refine ⟨rfl,?_⟩;cases h;exact ⟨rfl,rfl⟩
theorem mill_Deck_Server_ok {a0:Deck} {r:Server×Deck} (h:mill_Deck_Server a0=some r):CallsOK Tryz.prog 6 [.ref 0 0] [.box (Deck.av a0)] (.d (Server.toD r.1)) [.box (Deck.av r.2)]:=by
 refine ok Tryz.f6 (by kernel_rfl) (by kernel_rfl) ⟨rfl,?_⟩;unfold mill_Deck_Server at h;obtain ⟨⟨v1,v2,v3,v4⟩,g5,h⟩:=bind_inv h;refine ⟨_,_,some [],mill_Deck_Cache_ok g5,?_⟩;cases h;exact ⟨rfl,rfl⟩
theorem slices_Index_api_Community_api_Community_ok {a0:List Community} {a1:Community} {r:Int} (h:slices_Index_api_Community_api_Community a0 a1=some r):CallsOK Tryz.prog 105 [AV.d (D.l 2 Community.toD a0),AV.d (Community.toD a1)] [] (.d (D.i r)) []:=by
 refine ok Tryz.f105 (by kernel_rfl) (by kernel_rfl) ⟨rfl,?_⟩;unfold slices_Index_api_Community_api_Community at h;refine ⟨a0.length,List.length_map _,?_⟩;revert h;refine cut_join (fun _=>⟨dd 19 ([]),nn 19 ([])⟩) ?_ ?_
 ·intro k1 h;revert h;refine loop_for 6 2 Community.toD rfl (fun i2 _=>⟨AV.d (D.l 2 Community.toD a0)::X::X::AV.ref 3 0::X::X::AV.d (D.l 2 Community.toD a0)::AV.d (D.i (a0.length:Int))::AV.d (D.i (i2:Int))::dd 10 ([]),N::N::N::some (OB.box (Community.av a1))::nn 15 ([])⟩) ?_ ?_ ?_
  ·exact wk
  ·rintro _ K3 h;(conv=>whnf);refine .go ?_;(conv=>whnf);refine sel_f lt_f ?_;exact join_end wk h
  ·rintro next4 i2 x5 _ K3 hii2 hxi2 hwi2 h hK6;(conv=>whnf);refine .go ?_;(conv=>whnf);refine sel_t (lt_t hii2) ?_;(conv=>whnf);refine .go ?_;(conv=>whnf);refine dOB (by kernel_rfl) ?_;refine ⟨idx_b (f:=Community.toD) hii2,Community.toD x5,hxi2,rfl,?_⟩;(conv=>whnf);refine cOB (by kernel_rfl) ?_;(conv=>whnf);refine .go ?_;revert h;refine sel_if ?_ ?_<;>intro h
   ·cases h;exact ⟨rfl,rfl⟩
   ·refine ⟨_,hwi2,?_⟩;exact hK6 _ _ wk h
 ·rintro _ h;cases h;exact ⟨rfl,rfl⟩
theorem slices_Contains_api_Community_api_Community_ok {a0:List Community} {a1:Community} {r:Bool} (h:slices_Contains_api_Community_api_Community a0 a1=some r):CallsOK Tryz.prog 72 [AV.d (D.l 2 Community.toD a0),AV.d (Community.toD a1)] [] (.d (D.b r)) []:=by
 refine ok Tryz.f72 (by kernel_rfl) (by kernel_rfl) ⟨rfl,?_⟩;unfold slices_Contains_api_Community_api_Community at h;obtain ⟨v1,g2,h⟩:=bind_inv h;refine ⟨_,_,some [],slices_Index_api_Community_api_Community_ok g2,?_⟩;cases h;exact ⟨rfl,rfl⟩
theorem community_Has_ok {a0:List Community} {a1:Community} {r:Bool} (h:community_Has a0 a1=some r):CallsOK Tryz.prog 44 [AV.d (D.l 2 Community.toD a0),AV.d (Community.toD a1)] [] (.d (D.b r)) []:=by
 refine ok Tryz.f44 (by kernel_rfl) (by kernel_rfl) ⟨rfl,?_⟩;unfold community_Has at h;obtain ⟨v1,g2,h⟩:=bind_inv h;refine ⟨_,_,some [],slices_Contains_api_Community_api_Community_ok g2,?_⟩;cases h;exact ⟨rfl,rfl⟩
theorem filter_Hole_ok {a0:Attrs} {r:Bool} (h:filter_Hole a0=some r):CallsOK Tryz.prog 25 [AV.d (Attrs.toD a0)] [] (.d (D.b r)) []:=by
 refine ok Tryz.f25 (by kernel_rfl) (by kernel_rfl) ⟨rfl,?_⟩;unfold filter_Hole at h;obtain ⟨v1,g2,h⟩:=bind_inv h;refine ⟨_,_,some [],community_Has_ok g2,?_⟩;cases h;exact ⟨rfl,rfl⟩
theorem clone_List_int_ok {a0:List Int} {r:(List Int)} (h:clone_List_int a0=some r):CallsOK Tryz.prog 73 [AV.d (D.l 1 D.i a0)] [] (.d (D.l 1 D.i r)) []:=by
 refine ok Tryz.f73 (by kernel_rfl) (by kernel_rfl) ⟨rfl,?_⟩;unfold clone_List_int at h;obtain ⟨_,g1,h⟩:=bind_inv h;refine ⟨apnd_b0 (g:=D.i) g1,?_⟩;(conv=>whnf);refine .inl ?_;refine ⟨rfl,?_⟩;cases h;exact ⟨rfl,rfl⟩
theorem clone_List_byte_ok {a0:List UInt8} {r:(List UInt8)} (h:clone_List_byte a0=some r):CallsOK Tryz.prog 74 [AV.d (D.l 1 D.u8 a0)] [] (.d (D.l 1 D.u8 r)) []:=by
 refine ok Tryz.f74 (by kernel_rfl) (by kernel_rfl) ⟨rfl,?_⟩;unfold clone_List_byte at h;obtain ⟨_,g1,h⟩:=bind_inv h;refine ⟨apnd_b0 (g:=D.u8) g1,?_⟩;(conv=>whnf);refine .inl ?_;refine ⟨rfl,?_⟩;cases h;exact ⟨rfl,rfl⟩
theorem clone_List_api_Community_ok {a0:List Community} {r:(List Community)} (h:clone_List_api_Community a0=some r):CallsOK Tryz.prog 75 [AV.d (D.l 2 Community.toD a0)] [] (.d (D.l 2 Community.toD r)) []:=by
 refine ok Tryz.f75 (by kernel_rfl) (by kernel_rfl) ⟨rfl,?_⟩;unfold clone_List_api_Community at h;obtain ⟨_,g1,h⟩:=bind_inv h;refine ⟨apnd_b0 (g:=Community.toD) g1,?_⟩;(conv=>whnf);refine .inl ?_;refine ⟨rfl,?_⟩;cases h;exact ⟨rfl,rfl⟩
theorem clone_List_api_Large_ok {a0:List Large} {r:(List Large)} (h:clone_List_api_Large a0=some r):CallsOK Tryz.prog 76 [AV.d (D.l 3 Large.toD a0)] [] (.d (D.l 3 Large.toD r)) []:=by
 refine ok Tryz.f76 (by kernel_rfl) (by kernel_rfl) ⟨rfl,?_⟩;unfold clone_List_api_Large at h;obtain ⟨_,g1,h⟩:=bind_inv h;refine ⟨apnd_b0 (g:=Large.toD) g1,?_⟩;(conv=>whnf);refine .inl ?_;refine ⟨rfl,?_⟩;cases h;exact ⟨rfl,rfl⟩
theorem clone_Attrs_ok {a0:Attrs} {r:Attrs} (h:clone_Attrs a0=some r):CallsOK Tryz.prog 45 [AV.d (Attrs.toD a0)] [] (.d (Attrs.toD r)) []:=by
 refine ok Tryz.f45 (by kernel_rfl) (by kernel_rfl) ⟨rfl,?_⟩;unfold clone_Attrs at h;(conv=>whnf);refine dOB (by kernel_rfl) ?_;(conv=>whnf);refine cOB (by kernel_rfl) ?_;refine ⟨a0.Path.length,List.length_map _,?_⟩;revert h;refine cut_join (fun v1=>⟨X::AV.ref 1 0::AV.ref 2 0::X::AV.d (D.l 3 Unknown.toD a0.Other)::dd 57 ([]),N::some (OB.box [AV.d (D.i a0.Origin),AV.own 30 (List.map Segment.toD v1).length,AV.d (D.b a0.Next.V6),AV.d (D.u64 a0.Next.Hi),AV.d (D.u64 a0.Next.Lo),AV.d (D.i a0.MED),AV.d (D.i a0.Pref),AV.d (D.i a0.OTC),AV.d (D.l 2 Community.toD a0.Communities),AV.d (D.l 3 Large.toD a0.Large),AV.d (D.nil 3)])::some (OB.box Attrs.zv)::nn 27 (some (OB.row 133 2 (List.map Segment.toD v1) false)::nn 31 ([]))⟩) ?_ ?_
 ·intro k2 h;revert h;refine loop_for 15 2 Segment.toD rfl (fun i3 v4=>⟨X::AV.ref 1 0::AV.ref 2 0::X::AV.d (D.l 3 Unknown.toD a0.Other)::dd 10 (AV.d (D.l 2 Segment.toD a0.Path)::AV.d (D.i (a0.Path.length:Int))::AV.d (D.i (i3:Int))::dd 44 ([])),N::some (OB.box [AV.d (D.i a0.Origin),AV.own 30 (List.map Segment.toD v4).length,AV.d (D.b a0.Next.V6),AV.d (D.u64 a0.Next.Hi),AV.d (D.u64 a0.Next.Lo),AV.d (D.i a0.MED),AV.d (D.i a0.Pref),AV.d (D.i a0.OTC),AV.d (D.l 2 Community.toD a0.Communities),AV.d (D.l 3 Large.toD a0.Large),AV.d (D.nil 3)])::some (OB.box Attrs.zv)::nn 27 (some (OB.row 133 2 (List.map Segment.toD v4) false)::nn 31 ([]))⟩) ?_ ?_ ?_
  ·exact wk
  ·rintro v4 K5 h;(conv=>whnf);refine .go ?_;(conv=>whnf);refine sel_f lt_f ?_;exact join_end wk h
  ·rintro next6 i3 x7 v4 K5 hii3 hxi3 hwi3 h hK8;(conv=>whnf);refine .go ?_;(conv=>whnf);refine sel_t (lt_t hii3) ?_;(conv=>whnf);refine .go ?_;refine ⟨idx_b (f:=Segment.toD) hii3,Segment.toD x7,hxi3,rfl,?_⟩;(conv=>whnf);refine dOB (by kernel_rfl) ?_;obtain ⟨v9,g10,h⟩:=bind_inv h;refine ⟨_,_,clone_List_int_ok g10,.inl rfl,?_⟩;refine ⟨rfl,?_⟩;obtain ⟨v11,g12,h⟩:=bind_inv h;refine ⟨rfl,apnd_b (f:=Segment.toD) (g:=Segment.toD) g12,_,apnd_z (f:=Segment.toD) g12,?_⟩;(conv=>whnf);refine cOB (by kernel_rfl) ?_;refine ⟨_,hwi3,?_⟩;exact hK8 _ _ wk h
 ·rintro v1 h;refine ⟨a0.Other.length,List.length_map _,?_⟩;revert h;refine cut_join (fun v13=>⟨X::AV.ref 1 0::AV.ref 2 0::dd 59 ([]),N::some (OB.box [AV.d (D.i a0.Origin),AV.own 30 (List.map Segment.toD v1).length,AV.d (D.b a0.Next.V6),AV.d (D.u64 a0.Next.Hi),AV.d (D.u64 a0.Next.Lo),AV.d (D.i a0.MED),AV.d (D.i a0.Pref),AV.d (D.i a0.OTC),AV.d (D.l 2 Community.toD a0.Communities),AV.d (D.l 3 Large.toD a0.Large),AV.own 50 (List.map Unknown.toD v13).length])::some (OB.box Attrs.zv)::nn 27 (some (OB.row 133 2 (List.map Segment.toD v1) false)::nn 19 (some (OB.row 138 3 (List.map Unknown.toD v13) false)::nn 11 ([])))⟩) ?_ ?_
  ·intro k14 h;revert h;refine loop_for 33 3 Unknown.toD rfl (fun i15 v16=>⟨X::AV.ref 1 0::AV.ref 2 0::dd 30 (AV.d (D.l 3 Unknown.toD a0.Other)::AV.d (D.i (a0.Other.length:Int))::AV.d (D.i (i15:Int))::dd 26 ([])),N::some (OB.box [AV.d (D.i a0.Origin),AV.own 30 (List.map Segment.toD v1).length,AV.d (D.b a0.Next.V6),AV.d (D.u64 a0.Next.Hi),AV.d (D.u64 a0.Next.Lo),AV.d (D.i a0.MED),AV.d (D.i a0.Pref),AV.d (D.i a0.OTC),AV.d (D.l 2 Community.toD a0.Communities),AV.d (D.l 3 Large.toD a0.Large),AV.own 50 (List.map Unknown.toD v16).length])::some (OB.box Attrs.zv)::nn 27 (some (OB.row 133 2 (List.map Segment.toD v1) false)::nn 19 (some (OB.row 138 3 (List.map Unknown.toD v16) false)::nn 11 ([])))⟩) ?_ ?_ ?_
   ·exact wk
   ·rintro v16 K17 h;(conv=>whnf);refine .go ?_;(conv=>whnf);refine sel_f lt_f ?_;exact join_end wk h
   ·rintro next18 i15 x19 v16 K17 hii15 hxi15 hwi15 h hK20;(conv=>whnf);refine .go ?_;(conv=>whnf);refine sel_t (lt_t hii15) ?_;(conv=>whnf);refine .go ?_;refine ⟨idx_b (f:=Unknown.toD) hii15,Unknown.toD x19,hxi15,rfl,?_⟩;(conv=>whnf);refine dOB (by kernel_rfl) ?_;obtain ⟨v21,g22,h⟩:=bind_inv h;refine ⟨_,_,clone_List_byte_ok g22,.inl rfl,?_⟩;refine ⟨rfl,?_⟩;obtain ⟨v23,g24,h⟩:=bind_inv h;refine ⟨rfl,apnd_b (f:=Unknown.toD) (g:=Unknown.toD) g24,_,apnd_z (f:=Unknown.toD) g24,?_⟩;(conv=>whnf);refine cOB (by kernel_rfl) ?_;refine ⟨_,hwi15,?_⟩;exact hK20 _ _ wk h
  ·rintro v13 h;(conv=>whnf);refine dOB (by kernel_rfl) ?_;obtain ⟨v25,g26,h⟩:=bind_inv h;refine ⟨_,_,clone_List_api_Community_ok g26,.inl rfl,?_⟩;obtain ⟨v27,g28,h⟩:=bind_inv h;refine ⟨_,_,clone_List_api_Large_ok g28,.inl rfl,?_⟩;(conv=>whnf);refine cOB (by kernel_rfl) ?_;(conv=>whnf);refine .inl ?_;refine ⟨rfl,?_⟩;refine ⟨rfl,?_⟩;cases h;exact ⟨rfl,rfl⟩
theorem clone_Route_ok {a0:Route} {r:Route} (h:clone_Route a0=some r):CallsOK Tryz.prog 26 [AV.d (Route.toD a0)] [] (.d (Route.toD r)) []:=by
 refine ok Tryz.f26 (by kernel_rfl) (by kernel_rfl) ⟨rfl,?_⟩;unfold clone_Route at h;obtain ⟨v1,g2,h⟩:=bind_inv h;refine ⟨_,_,some [],clone_Attrs_ok g2,?_⟩;cases h;exact ⟨rfl,rfl⟩
end Go.AX.Q35
end
section
namespace Go.AX.Q35
open Go Go.AX Go.Proofs
set_option maxRecDepth 100000
set_option maxHeartbeats 4000000
set_option linter.unusedVariables false
theorem blackhole_Without_ok {a0:List Route} {r:(List Route)} (h:blackhole_Without a0=some r):CallsOK Tryz.prog 9 [AV.d (D.l 16 Route.toD a0)] [] (.d (D.l 16 Route.toD r)) []:=by
 refine ok Tryz.f9 (by kernel_rfl) (by kernel_rfl) ⟨rfl,?_⟩;unfold blackhole_Without at h;refine ⟨a0.length,List.length_map _,?_⟩;revert h;refine cut_join (fun v1=>⟨X::X::X::AV.own 3 (List.map Route.toD v1).length::dd 19 ([]),N::N::N::some (OB.row 58 16 (List.map Route.toD v1) false)::nn 19 ([])⟩) ?_ ?_
 ·intro k2 h;revert h;refine loop_for 6 16 Route.toD rfl (fun i3 v4=>⟨X::X::X::AV.own 3 (List.map Route.toD v4).length::X::X::AV.d (D.l 16 Route.toD a0)::AV.d (D.i (a0.length:Int))::AV.d (D.i (i3:Int))::dd 14 ([]),N::N::N::some (OB.row 58 16 (List.map Route.toD v4) false)::nn 19 ([])⟩) ?_ ?_ ?_
  ·exact wk
  ·rintro v4 K5 h;(conv=>whnf);refine .go ?_;(conv=>whnf);refine sel_f lt_f ?_;exact join_end wk h
  ·rintro next6 i3 x7 v4 K5 hii3 hxi3 hwi3 h hK8;(conv=>whnf);refine .go ?_;(conv=>whnf);refine sel_t (lt_t hii3) ?_;(conv=>whnf);refine .go ?_;refine ⟨idx_b (f:=Route.toD) hii3,Route.toD x7,hxi3,rfl,?_⟩;obtain ⟨v9,g10,h⟩:=bind_inv h;refine ⟨_,_,some [],filter_Hole_ok g10,?_⟩;revert h;refine cut_join (fun v11=>⟨X::X::X::AV.own 3 (List.map Route.toD v11).length::X::X::AV.d (D.l 16 Route.toD a0)::AV.d (D.i (a0.length:Int))::AV.d (D.i (i3:Int))::dd 14 ([]),N::N::N::some (OB.row 58 16 (List.map Route.toD v11) false)::nn 19 ([])⟩) ?_ ?_
   ·intro k12 h;revert h;refine sel_if ?_ ?_<;>intro h
    ·obtain ⟨v13,g14,h⟩:=bind_inv h;refine ⟨_,_,some [],clone_Route_ok g14,?_⟩;refine ⟨rfl,?_⟩;obtain ⟨v15,g16,h⟩:=bind_inv h;refine ⟨rfl,apnd_b (f:=Route.toD) (g:=Route.toD) g16,_,apnd_z (f:=Route.toD) g16,?_⟩;exact join_end wk h
    ·exact join_end wk h
   ·rintro v11 h;refine ⟨_,hwi3,?_⟩;exact hK8 _ _ wk h
 ·rintro v1 h;(conv=>whnf);refine .inl ?_;refine ⟨rfl,?_⟩;cases h;exact ⟨rfl,rfl⟩
theorem mill_Deck_Addr_ok {a0:Deck} {r:Addr×Deck} (h:mill_Deck_Addr a0=some r):CallsOK Tryz.prog 10 [.ref 0 0] [.box (Deck.av a0)] (.d (Addr.toD r.1)) [.box (Deck.av r.2)]:=by
 refine ok Tryz.f10 (by kernel_rfl) (by kernel_rfl) ⟨rfl,?_⟩;unfold mill_Deck_Addr at h;obtain ⟨⟨v1,v2⟩,g3,h⟩:=bind_inv h;refine ⟨_,_,some [],mill_Deck_Next_ok g3,?_⟩;obtain ⟨v4,g5,h⟩:=bind_inv h;refine ⟨_,_,some [],mill_block_ok g5,?_⟩;(conv=>whnf);refine dOB (by kernel_rfl) ?_;obtain ⟨⟨v6,v7⟩,g8,h⟩:=bind_inv h;refine ⟨_,_,mill_Deck_Next_ok g8,.inl rfl,?_⟩;refine ⟨_,u64_wrap _,?_⟩;refine ⟨_,u64_wrap _,?_⟩;(conv=>whnf);refine cOB (by kernel_rfl) ?_;cases h;exact ⟨rfl,rfl⟩
theorem prefix_width_ok {a0:Addr} {r:Int} (h:prefix_width a0=some r):CallsOK Tryz.prog 50 [AV.d (Addr.toD a0)] [] (.d (D.i r)) []:=by
 refine ok Tryz.f50 (by kernel_rfl) (by kernel_rfl) ⟨rfl,?_⟩;unfold prefix_width at h;(conv=>whnf);refine .go ?_;revert h;refine sel_if ?_ ?_<;>intro h
 ·cases h;exact ⟨rfl,rfl⟩
 ·cases h;exact ⟨rfl,rfl⟩
theorem prefix_masks_ok {a0:Int} {r:UInt64×UInt64} (h:prefix_masks a0=some r):CallsOK Tryz.prog 77 [AV.d (D.i a0)] [] (.tup [.d (D.u64 r.1),.d (D.u64 r.2)]) []:=by
 refine ok Tryz.f77 (by kernel_rfl) (by kernel_rfl) ⟨rfl,?_⟩;unfold prefix_masks at h;(conv=>whnf);refine .go ?_;revert h;refine sel_if ?_ ?_<;>intro h
 ·refine ⟨_,rfl,?_⟩;refine ⟨_,u64_wrap _,?_⟩;refine ⟨Int.natCast_nonneg _,_,u64_wrap _,?_⟩;refine ⟨_,u64_wrap _,?_⟩;cases h;exact ⟨rfl,rfl⟩
 ·refine ⟨_,u64_wrap _,?_⟩;refine ⟨Int.natCast_nonneg _,_,u64_wrap _,?_⟩;refine ⟨_,u64_wrap _,?_⟩;cases h;exact ⟨rfl,rfl⟩
theorem prefix_first_ok {a0:Addr} {a1:Int} {r:Addr} (h:prefix_first a0 a1=some r):CallsOK Tryz.prog 51 [AV.d (Addr.toD a0),AV.d (D.i a1)] [] (.d (Addr.toD r)) []:=by
 refine ok Tryz.f51 (by kernel_rfl) (by kernel_rfl) ⟨rfl,?_⟩;unfold prefix_first at h;obtain ⟨v1,g2,h⟩:=bind_inv h;refine ⟨_,_,some [],prefix_width_ok g2,?_⟩;refine ⟨_,rfl,?_⟩;obtain ⟨⟨v3,v4⟩,g5,h⟩:=bind_inv h;refine ⟨_,_,some [],prefix_masks_ok g5,?_⟩;refine ⟨_,u64_wrap _,?_⟩;refine ⟨_,u64_wrap _,?_⟩;cases h;exact ⟨rfl,rfl⟩
theorem prefix_Contains_ok {a0:Prefix} {a1:Addr} {r:Bool} (h:prefix_Contains a0 a1=some r):CallsOK Tryz.prog 31 [AV.d (Prefix.toD a0),AV.d (Addr.toD a1)] [] (.d (D.b r)) []:=by
 refine ok Tryz.f31 (by kernel_rfl) (by kernel_rfl) ⟨rfl,?_⟩;unfold prefix_Contains at h;revert h;refine cut_join (fun v1=>⟨dd 4 (AV.d (D.b v1)::dd 27 ([])),nn 32 ([])⟩) ?_ ?_
 ·intro k2 h;(conv=>whnf);refine dOB (by kernel_rfl) ?_;revert h;refine sel_if ?_ ?_<;>intro h
  ·revert h;refine sel_if ?_ ?_<;>intro h
   ·obtain ⟨v3,g4,h⟩:=bind_inv h;refine ⟨_,_,prefix_width_ok g4,.inl rfl,?_⟩;revert h;refine sel_if ?_ ?_<;>intro h
    ·obtain ⟨v5,g6,h⟩:=bind_inv h;refine ⟨_,_,prefix_first_ok g6,.inl rfl,?_⟩;(conv=>whnf);refine cOB (by kernel_rfl) ?_;exact join_end wk h
    ·(conv=>whnf);refine cOB (by kernel_rfl) ?_;exact join_end wk h
   ·(conv=>whnf);refine cOB (by kernel_rfl) ?_;exact join_end wk h
  ·(conv=>whnf);refine cOB (by kernel_rfl) ?_;exact join_end wk h
 ·rintro v1 h;cases h;exact ⟨rfl,rfl⟩
theorem blackhole_Match_ok {a0:List Route} {a1:Addr} {r:Route×Bool} (h:blackhole_Match a0 a1=some r):CallsOK Tryz.prog 13 [AV.d (D.l 16 Route.toD a0),AV.d (Addr.toD a1)] [] (.tup [.d (Route.toD r.1),.d (D.b r.2)]) []:=by
 refine ok Tryz.f13 (by kernel_rfl) (by kernel_rfl) ⟨rfl,?_⟩;unfold blackhole_Match at h;refine ⟨a0.length,List.length_map _,?_⟩;revert h;refine cut_join (fun v1=>⟨AV.d (D.l 16 Route.toD a0)::X::X::X::AV.ref 4 0::X::AV.d (D.i v1)::dd 39 ([]),nn 4 (some (OB.box Route.zv)::nn 41 ([]))⟩) ?_ ?_
 ·intro k2 h;revert h;refine loop_for 9 16 Route.toD rfl (fun i3 v4=>⟨AV.d (D.l 16 Route.toD a0)::X::X::AV.ref 3 0::AV.ref 4 0::X::AV.d (D.i v4)::X::X::AV.d (D.l 16 Route.toD a0)::AV.d (D.i (a0.length:Int))::AV.d (D.i (i3:Int))::dd 34 ([]),N::N::N::some (OB.box (Addr.av a1))::some (OB.box Route.zv)::nn 41 ([])⟩) ?_ ?_ ?_
  ·exact wk
  ·rintro v4 K5 h;(conv=>whnf);refine .go ?_;(conv=>whnf);refine sel_f lt_f ?_;exact join_end wk h
  ·rintro next6 i3 x7 v4 K5 hii3 hxi3 hwi3 h hK8;(conv=>whnf);refine .go ?_;(conv=>whnf);refine sel_t (lt_t hii3) ?_;(conv=>whnf);refine .go ?_;refine ⟨idx_b (f:=Route.toD) hii3,Route.toD x7,hxi3,rfl,?_⟩;revert h;refine cut_join (fun v9=>⟨AV.d (D.l 16 Route.toD a0)::X::X::AV.ref 3 0::AV.ref 4 0::X::AV.d (D.i v4)::AV.d (D.i (i3:Int))::X::AV.d (D.l 16 Route.toD a0)::AV.d (D.i (a0.length:Int))::AV.d (D.i (i3:Int))::dd 23 (AV.d (D.b v9)::dd 10 ([])),N::N::N::some (OB.box (Addr.av a1))::some (OB.box Route.zv)::nn 41 ([])⟩) ?_ ?_
   ·intro k10 h;(conv=>whnf);refine dOB (by kernel_rfl) ?_;obtain ⟨v11,g12,h⟩:=bind_inv h;refine ⟨_,_,prefix_Contains_ok g12,.inl rfl,?_⟩;revert h;refine sel_if ?_ ?_<;>intro h
    ·revert h;refine sel_if ?_ ?_<;>intro h
     ·(conv=>whnf);refine cOB (by kernel_rfl) ?_;exact join_end wk h
     ·obtain ⟨v13,g14,h⟩:=bind_inv h;refine ⟨geti_b (f:=Route.toD) g14,Route.toD v13,geti_d (f:=Route.toD) g14,rfl,?_⟩;(conv=>whnf);refine cOB (by kernel_rfl) ?_;exact join_end wk h
    ·(conv=>whnf);refine cOB (by kernel_rfl) ?_;exact join_end wk h
   ·rintro v9 h;revert h;refine cut_join (fun v15=>⟨AV.d (D.l 16 Route.toD a0)::X::X::AV.ref 3 0::AV.ref 4 0::X::AV.d (D.i v15)::X::X::AV.d (D.l 16 Route.toD a0)::AV.d (D.i (a0.length:Int))::AV.d (D.i (i3:Int))::dd 34 ([]),N::N::N::some (OB.box (Addr.av a1))::some (OB.box Route.zv)::nn 41 ([])⟩) ?_ ?_
    ·intro k16 h;revert h;refine sel_if ?_ ?_<;>intro h
     ·exact join_end wk h
     ·exact join_end wk h
    ·rintro v15 h;refine ⟨_,hwi3,?_⟩;exact hK8 _ _ wk h
 ·rintro v1 h;(conv=>whnf);refine .go ?_;revert h;refine sel_if ?_ ?_<;>intro h
  ·cases h;exact ⟨rfl,rfl⟩
  ·obtain ⟨v17,g18,h⟩:=bind_inv h;refine ⟨geti_b (f:=Route.toD) g18,Route.toD v17,geti_d (f:=Route.toD) g18,rfl,?_⟩;obtain ⟨v19,g20,h⟩:=bind_inv h;refine ⟨_,_,some [],clone_Route_ok g20,?_⟩;cases h;exact ⟨rfl,rfl⟩
theorem blackhole_Drops_ok {a0:List Route} {a1:Addr} {r:Bool} (h:blackhole_Drops a0 a1=some r):CallsOK Tryz.prog 15 [AV.d (D.l 16 Route.toD a0),AV.d (Addr.toD a1)] [] (.d (D.b r)) []:=by
 refine ok Tryz.f15 (by kernel_rfl) (by kernel_rfl) ⟨rfl,?_⟩;unfold blackhole_Drops at h;obtain ⟨⟨v1,v2⟩,g3,h⟩:=bind_inv h;refine ⟨_,_,some [],blackhole_Match_ok g3,?_⟩;revert h;refine cut_join (fun v4=>⟨dd 4 (AV.d (D.b v4)::dd 14 ([])),nn 19 ([])⟩) ?_ ?_
 ·intro k5 h;revert h;refine sel_if ?_ ?_<;>intro h
  ·obtain ⟨v6,g7,h⟩:=bind_inv h;refine ⟨_,_,some [],filter_Hole_ok g7,?_⟩;exact join_end wk h
  ·exact join_end wk h
 ·rintro v4 h;cases h;exact ⟨rfl,rfl⟩
theorem law35_awake_ok  {r:Bool} (h:law35_awake=some r):CallsOK Tryz.prog 16 [] [] (.d (D.b r)) []:=by
 refine ok Tryz.f16 (by kernel_rfl) (by kernel_rfl) ⟨rfl,?_⟩;unfold law35_awake at h;refine ⟨rfl,?_⟩;revert h;refine cut_join (fun v1=>⟨AV.d (D.b v1)::dd 30 ([]),nn 31 ([])⟩) ?_ ?_
 ·intro k2 h;refine ⟨rfl,?_⟩;obtain ⟨v3,g4,h⟩:=bind_inv h;refine ⟨_,_,none,blackhole_Drops_ok g4,?_⟩;revert h;refine sel_if ?_ ?_<;>intro h
  ·refine ⟨rfl,?_⟩;obtain ⟨v5,g6,h⟩:=bind_inv h;refine ⟨_,_,none,blackhole_Drops_ok g6,?_⟩;revert h;refine sel_if ?_ ?_<;>intro h
   ·refine ⟨rfl,?_⟩;obtain ⟨v7,g8,h⟩:=bind_inv h;refine ⟨_,_,some [],blackhole_Without_ok g8,?_⟩;refine ⟨v7.length,List.length_map _,?_⟩;exact join_end wk h
   ·exact join_end wk h
  ·exact join_end wk h
 ·rintro v1 h;cases h;exact ⟨rfl,rfl⟩
theorem law35_BlackholeOthers_ok {a0:List Int} {a1:Int} {r:Bool} (h:law35_BlackholeOthers a0 a1=some r):CallsOK Tryz.prog 3 [AV.d (D.l 1 D.i a0),AV.d (D.i a1)] [] (.d (D.b r)) []:=by
 refine ok Tryz.f3 (by kernel_rfl) (by kernel_rfl) ⟨rfl,?_⟩;unfold law35_BlackholeOthers at h;obtain ⟨v1,g2,h⟩:=bind_inv h;refine ⟨_,_,some [19],mill_New_ok g2,?_⟩;obtain ⟨⟨v3,v4⟩,g5,h⟩:=bind_inv h;refine ⟨_,_,some [],mill_Deck_Server_ok g5,?_⟩;(conv=>whnf);refine dOB (by kernel_rfl) ?_;refine ⟨v3.Policies.length,List.length_map _,?_⟩;obtain ⟨v6,g7,h⟩:=bind_inv h;refine ⟨_,_,mill_Mod_ok g7,.inl rfl,?_⟩;obtain ⟨v8,g9,h⟩:=bind_inv h;refine ⟨geti_b (f:=Policy.toD) g9,Policy.toD v8,geti_d (f:=Policy.toD) g9,rfl,?_⟩;obtain ⟨v10,g11,h⟩:=bind_inv h;refine ⟨_,_,ref28_All_ok g11,.inl rfl,?_⟩;(conv=>whnf);refine cOB (by kernel_rfl) ?_;obtain ⟨v12,g13,h⟩:=bind_inv h;refine ⟨_,_,some [],blackhole_Without_ok g13,?_⟩;revert h;refine cut_join (fun _=>⟨dd 89 ([]),nn 89 ([])⟩) ?_ ?_
 ·intro k14 h;revert h;refine loop_while (fun (v15,v16)=>⟨dd 5 (AV.ref 19 0::X::AV.d (D.l 16 Route.toD v10)::AV.d (D.l 16 Route.toD v12)::AV.d (D.i v15)::dd 79 ([])),nn 19 (some (OB.box (Deck.av v16))::nn 69 ([]))⟩) ?_ ?_
  ·exact wk
  rintro next17 ⟨v15,v16⟩ K18 h hK19;(conv=>whnf);refine .go ?_;revert h;refine sel_if ?_ ?_<;>intro h
  ·revert h;refine cut_join (fun v20=>⟨dd 5 (AV.ref 19 0::X::AV.d (D.l 16 Route.toD v10)::AV.d (D.l 16 Route.toD v12)::AV.d (D.i v15)::dd 79 ([])),nn 19 (some (OB.box (Deck.av v20))::nn 69 ([]))⟩) ?_ ?_
   ·intro k21 h;obtain ⟨⟨v22,v23⟩,g24,h⟩:=bind_inv h;refine ⟨_,_,some [],mill_Deck_Addr_ok g24,?_⟩;refine ⟨v10.length,List.length_map _,?_⟩;revert h;refine cut_join (fun v25=>⟨dd 5 (AV.ref 19 0::X::AV.d (D.l 16 Route.toD v10)::AV.d (D.l 16 Route.toD v12)::AV.d (D.i v15)::AV.ref 10 0::AV.d (D.b v25)::dd 77 ([])),nn 10 (some (OB.box (Addr.av v22))::nn 8 (some (OB.box (Deck.av v23))::nn 69 ([])))⟩) ?_ ?_
    ·intro k26 h;revert h;refine loop_for 42 16 Route.toD rfl (fun i27 v28=>⟨dd 5 (AV.ref 19 0::X::AV.d (D.l 16 Route.toD v10)::AV.d (D.l 16 Route.toD v12)::AV.d (D.i v15)::AV.ref 10 0::AV.d (D.b v28)::dd 30 (AV.d (D.l 16 Route.toD v10)::AV.d (D.i (v10.length:Int))::AV.d (D.i (i27:Int))::dd 44 ([]))),nn 10 (some (OB.box (Addr.av v22))::nn 8 (some (OB.box (Deck.av v23))::nn 69 ([])))⟩) ?_ ?_ ?_
     ·exact wk
     ·rintro v28 K29 h;(conv=>whnf);refine .go ?_;(conv=>whnf);refine sel_f lt_f ?_;exact join_end wk h
     ·rintro next30 i27 x31 v28 K29 hii27 hxi27 hwi27 h hK32;(conv=>whnf);refine .go ?_;(conv=>whnf);refine sel_t (lt_t hii27) ?_;(conv=>whnf);refine .go ?_;refine ⟨idx_b (f:=Route.toD) hii27,Route.toD x31,hxi27,rfl,?_⟩;revert h;refine cut_join (fun v33=>⟨dd 5 (AV.ref 19 0::X::AV.d (D.l 16 Route.toD v10)::AV.d (D.l 16 Route.toD v12)::AV.d (D.i v15)::AV.ref 10 0::AV.d (D.b v33)::dd 30 (AV.d (D.l 16 Route.toD v10)::AV.d (D.i (v10.length:Int))::AV.d (D.i (i27:Int))::dd 44 ([]))),nn 10 (some (OB.box (Addr.av v22))::nn 8 (some (OB.box (Deck.av v23))::nn 69 ([])))⟩) ?_ ?_
      ·intro k34 h;revert h;refine sel_if ?_ ?_<;>intro h
       ·exact join_end wk h
       ·obtain ⟨v35,g36,h⟩:=bind_inv h;refine ⟨_,_,some [],ref24_Hole_ok g36,?_⟩;revert h;refine sel_if ?_ ?_<;>intro h
        ·obtain ⟨v37,g38,h⟩:=bind_inv h;refine ⟨_,_,some [],ref02_Contains_ok g38,?_⟩;exact join_end wk h
        ·exact join_end wk h
      ·rintro v33 h;refine ⟨_,hwi27,?_⟩;exact hK32 _ _ wk h
    ·rintro v25 h;(conv=>whnf);refine .go ?_;revert h;refine sel_if ?_ ?_<;>intro h
     ·exact join_end wk h
     ·obtain ⟨⟨v39,v40⟩,g41,h⟩:=bind_inv h;refine ⟨_,_,some [],blackhole_Match_ok g41,?_⟩;obtain ⟨⟨v42,v43⟩,g44,h⟩:=bind_inv h;refine ⟨_,_,some [],blackhole_Match_ok g44,?_⟩;revert h;refine cut_join (fun v45=>⟨dd 5 (AV.ref 19 0::X::AV.d (D.l 16 Route.toD v10)::AV.d (D.l 16 Route.toD v12)::AV.d (D.i v15)::dd 77 (AV.d (D.b v45)::X::[])),nn 19 (some (OB.box (Deck.av v23))::nn 69 ([]))⟩) ?_ ?_
      ·intro k46 h;revert h;refine sel_if ?_ ?_<;>intro h
       ·exact join_end wk h
       ·obtain ⟨v47,g48,h⟩:=bind_inv h;refine ⟨_,_,some [],ref23_SameRoute_ok g48,?_⟩;revert h;refine sel_if ?_ ?_<;>intro h
        ·exact join_end wk h
        ·obtain ⟨v49,g50,h⟩:=bind_inv h;refine ⟨_,_,some [],blackhole_Drops_ok g50,?_⟩;exact join_end wk h
      ·rintro v45 h;(conv=>whnf);refine .go ?_;revert h;refine sel_if ?_ ?_<;>intro h
       ·cases h;exact ⟨rfl,rfl⟩
       ·exact join_end wk h
   ·rintro v20 h;refine ⟨_,rfl,?_⟩;exact hK19 _ _ wk h
  ·exact join_end wk h
 ·rintro _ h;obtain ⟨v51,g52,h⟩:=bind_inv h;refine ⟨_,_,some [],law35_awake_ok g52,?_⟩;cases h;exact ⟨rfl,rfl⟩
theorem blackhole_Requested_ok {a0:Server} {a1:Addr} {r:(List Int)} (h:blackhole_Requested a0 a1=some r):CallsOK Tryz.prog 17 [AV.d (Server.toD a0),AV.d (Addr.toD a1)] [] (.d (D.l 1 D.i r)) []:=by
 refine ok Tryz.f17 (by kernel_rfl) (by kernel_rfl) ⟨rfl,?_⟩;unfold blackhole_Requested at h;refine ⟨a0.RIBs.length,List.length_map _,?_⟩;revert h;refine cut_join (fun v1=>⟨dd 5 (AV.own 5 (List.map D.i v1).length::dd 43 ([])),nn 5 (some (OB.row 3 1 (List.map D.i v1) false)::nn 43 ([]))⟩) ?_ ?_
 ·intro k2 h;revert h;refine loop_for 11 8 RIB.toD rfl (fun i3 v4=>⟨X::X::X::AV.ref 3 0::X::AV.own 5 (List.map D.i v4).length::dd 5 (AV.d (D.l 8 RIB.toD a0.RIBs)::AV.d (D.i (a0.RIBs.length:Int))::AV.d (D.i (i3:Int))::dd 35 ([])),N::N::N::some (OB.box (Addr.av a1))::N::some (OB.row 3 1 (List.map D.i v4) false)::nn 43 ([])⟩) ?_ ?_ ?_
  ·exact wk
  ·rintro v4 K5 h;(conv=>whnf);refine .go ?_;(conv=>whnf);refine sel_f lt_f ?_;exact join_end wk h
  ·rintro next6 i3 x7 v4 K5 hii3 hxi3 hwi3 h hK8;(conv=>whnf);refine .go ?_;(conv=>whnf);refine sel_t (lt_t hii3) ?_;revert h;refine cut_join (fun v9=>⟨X::X::X::AV.ref 3 0::X::AV.own 5 (List.map D.i v9).length::dd 5 (AV.d (D.l 8 RIB.toD a0.RIBs)::AV.d (D.i (a0.RIBs.length:Int))::AV.d (D.i (i3:Int))::dd 35 ([])),N::N::N::some (OB.box (Addr.av a1))::N::some (OB.row 3 1 (List.map D.i v9) false)::nn 43 ([])⟩) ?_ ?_
   ·intro k10 h;refine ⟨idx_b (f:=RIB.toD) hii3,RIB.toD x7,hxi3,rfl,?_⟩;refine ⟨x7.Held.length,List.length_map _,?_⟩;revert h;refine cut_join (fun v11=>⟨X::X::X::AV.ref 3 0::X::AV.own 5 (List.map D.i v11).length::dd 5 (AV.d (D.l 8 RIB.toD a0.RIBs)::AV.d (D.i (a0.RIBs.length:Int))::AV.d (D.i (i3:Int))::dd 35 ([])),N::N::N::some (OB.box (Addr.av a1))::N::some (OB.row 3 1 (List.map D.i v11) false)::nn 43 ([])⟩) ?_ ?_
    ·intro k12 h;revert h;refine loop_for 18 18 Held.toD rfl (fun i13 _=>⟨X::X::X::AV.ref 3 0::X::AV.own 5 (List.map D.i v4).length::X::AV.ref 7 0::X::X::X::AV.d (D.l 8 RIB.toD a0.RIBs)::AV.d (D.i (a0.RIBs.length:Int))::AV.d (D.i (i3:Int))::dd 4 (AV.d (D.l 18 Held.toD x7.Held)::AV.d (D.i (x7.Held.length:Int))::AV.d (D.i (i13:Int))::dd 28 ([])),N::N::N::some (OB.box (Addr.av a1))::N::some (OB.row 3 1 (List.map D.i v4) false)::N::some (OB.box (RIB.av x7))::nn 41 ([])⟩) ?_ ?_ ?_
     ·exact wk
     ·rintro _ K14 h;(conv=>whnf);refine .go ?_;(conv=>whnf);refine sel_f lt_f ?_;exact join_end wk h
     ·rintro next15 i13 x16 _ K14 hii13 hxi13 hwi13 h hK17;(conv=>whnf);refine .go ?_;(conv=>whnf);refine sel_t (lt_t hii13) ?_;(conv=>whnf);refine .go ?_;refine ⟨idx_b (f:=Held.toD) hii13,Held.toD x16,hxi13,rfl,?_⟩;revert h;refine cut_join (fun v18=>⟨X::X::X::AV.ref 3 0::X::AV.own 5 (List.map D.i v4).length::X::AV.ref 7 0::X::X::X::AV.d (D.l 8 RIB.toD a0.RIBs)::AV.d (D.i (a0.RIBs.length:Int))::AV.d (D.i (i3:Int))::dd 4 (AV.d (D.l 18 Held.toD x7.Held)::AV.d (D.i (x7.Held.length:Int))::AV.d (D.i (i13:Int))::dd 18 (AV.d (D.b v18)::dd 9 ([]))),N::N::N::some (OB.box (Addr.av a1))::N::some (OB.row 3 1 (List.map D.i v4) false)::N::some (OB.box (RIB.av x7))::nn 41 ([])⟩) ?_ ?_
      ·intro k19 h;revert h;refine sel_if ?_ ?_<;>intro h
       ·obtain ⟨v20,g21,h⟩:=bind_inv h;refine ⟨_,_,some [],filter_Hole_ok g21,?_⟩;revert h;refine sel_if ?_ ?_<;>intro h
        ·obtain ⟨v22,g23,h⟩:=bind_inv h;refine ⟨_,_,some [],prefix_Contains_ok g23,?_⟩;exact join_end wk h
        ·exact join_end wk h
       ·exact join_end wk h
      ·rintro v18 h;(conv=>whnf);refine .go ?_;revert h;refine sel_if ?_ ?_<;>intro h
       ·refine ⟨rfl,?_⟩;obtain ⟨v24,g25,h⟩:=bind_inv h;refine ⟨rfl,apnd_b (f:=D.i) (g:=D.i) g25,_,apnd_z (f:=D.i) g25,?_⟩;exact join_end wk h
       ·refine ⟨_,hwi13,?_⟩;exact hK17 _ _ wk h
    ·rintro v11 h;exact join_end wk h
   ·rintro v9 h;refine ⟨_,hwi3,?_⟩;exact hK8 _ _ wk h
 ·rintro v1 h;(conv=>whnf);refine .inl ?_;refine ⟨rfl,?_⟩;cases h;exact ⟨rfl,rfl⟩
theorem law35_BlackholeHarmless_ok {a0:List Int} {a1:Int} {r:Bool} (h:law35_BlackholeHarmless a0 a1=some r):CallsOK Tryz.prog 4 [AV.d (D.l 1 D.i a0),AV.d (D.i a1)] [] (.d (D.b r)) []:=by
 refine ok Tryz.f4 (by kernel_rfl) (by kernel_rfl) ⟨rfl,?_⟩;unfold law35_BlackholeHarmless at h;obtain ⟨v1,g2,h⟩:=bind_inv h;refine ⟨_,_,some [22],mill_New_ok g2,?_⟩;obtain ⟨⟨v3,v4⟩,g5,h⟩:=bind_inv h;refine ⟨_,_,some [],mill_Deck_Server_ok g5,?_⟩;(conv=>whnf);refine dOB (by kernel_rfl) ?_;refine ⟨v3.Policies.length,List.length_map _,?_⟩;obtain ⟨v6,g7,h⟩:=bind_inv h;refine ⟨_,_,mill_Mod_ok g7,.inl rfl,?_⟩;obtain ⟨v8,g9,h⟩:=bind_inv h;refine ⟨geti_b (f:=Policy.toD) g9,Policy.toD v8,geti_d (f:=Policy.toD) g9,rfl,?_⟩;(conv=>whnf);refine cOB (by kernel_rfl) ?_;obtain ⟨v10,g11,h⟩:=bind_inv h;refine ⟨_,_,some [],ref28_All_ok g11,?_⟩;revert h;refine cut_join (fun _=>⟨dd 142 ([]),nn 142 ([])⟩) ?_ ?_
 ·intro k12 h;revert h;refine loop_while (fun (v13,v14)=>⟨dd 5 (AV.ref 22 0::AV.ref 6 0::AV.ref 7 0::AV.d (D.l 16 Route.toD v10)::AV.d (D.i v13)::dd 132 ([])),nn 6 (some (OB.box (Server.av v3))::some (OB.box (Policy.av v8))::nn 14 (some (OB.box (Deck.av v14))::nn 119 ([])))⟩) ?_ ?_
  ·exact wk
  rintro next15 ⟨v13,v14⟩ K16 h hK17;(conv=>whnf);refine .go ?_;revert h;refine sel_if ?_ ?_<;>intro h
  ·revert h;refine cut_join (fun v18=>⟨dd 5 (AV.ref 22 0::AV.ref 6 0::AV.ref 7 0::AV.d (D.l 16 Route.toD v10)::AV.d (D.i v13)::dd 132 ([])),nn 6 (some (OB.box (Server.av v3))::some (OB.box (Policy.av v8))::nn 14 (some (OB.box (Deck.av v18))::nn 119 ([])))⟩) ?_ ?_
   ·intro k19 h;obtain ⟨⟨v20,v21⟩,g22,h⟩:=bind_inv h;refine ⟨_,_,some [],mill_Deck_Addr_ok g22,?_⟩;obtain ⟨v23,g24,h⟩:=bind_inv h;refine ⟨_,_,some [],blackhole_Drops_ok g24,?_⟩;(conv=>whnf);refine .go ?_;revert h;refine sel_if ?_ ?_<;>intro h
    ·exact join_end wk h
    ·obtain ⟨⟨v25,v26⟩,g27,h⟩:=bind_inv h;refine ⟨_,_,some [],blackhole_Match_ok g27,?_⟩;revert h;refine cut_join (fun v28=>⟨dd 5 (AV.ref 22 0::AV.ref 6 0::AV.ref 7 0::AV.d (D.l 16 Route.toD v10)::AV.d (D.i v13)::AV.ref 10 0::AV.ref 11 0::dd 62 (AV.d (D.b v28)::dd 67 ([]))),nn 6 (some (OB.box (Server.av v3))::some (OB.box (Policy.av v8))::N::N::some (OB.box (Addr.av v20))::some (OB.box (Route.av v25))::nn 10 (some (OB.box (Deck.av v21))::nn 119 ([])))⟩) ?_ ?_
     ·intro k29 h;revert h;refine sel_if ?_ ?_<;>intro h
      ·exact join_end wk h
      ·revert h;refine sel_if ?_ ?_<;>intro h
       ·exact join_end wk h
       ·revert h;refine sel_if ?_ ?_<;>intro h
        ·exact join_end wk h
        ·obtain ⟨v30,g31,h⟩:=bind_inv h;refine ⟨_,_,some [],ref02_Contains_ok g31,?_⟩;exact join_end wk h
     ·rintro v28 h;(conv=>whnf);refine .go ?_;revert h;refine sel_if ?_ ?_<;>intro h
      ·cases h;exact ⟨rfl,rfl⟩
      ·obtain ⟨v32,g33,h⟩:=bind_inv h;refine ⟨_,_,some [],blackhole_Requested_ok g33,?_⟩;refine ⟨v32.length,List.length_map _,?_⟩;revert h;refine cut_join (fun v34=>⟨dd 5 (AV.ref 22 0::AV.ref 6 0::AV.ref 7 0::AV.d (D.l 16 Route.toD v10)::AV.d (D.i v13)::X::AV.ref 11 0::X::AV.d (D.b v34)::dd 128 ([])),nn 6 (some (OB.box (Server.av v3))::some (OB.box (Policy.av v8))::N::N::N::some (OB.box (Route.av v25))::nn 10 (some (OB.box (Deck.av v21))::nn 119 ([])))⟩) ?_ ?_
       ·intro k35 h;revert h;refine loop_for 77 1 D.i rfl (fun i36 v37=>⟨dd 5 (AV.ref 22 0::AV.ref 6 0::AV.ref 7 0::AV.d (D.l 16 Route.toD v10)::AV.d (D.i v13)::X::AV.ref 11 0::X::AV.d (D.b v37)::dd 63 (AV.d (D.l 1 D.i v32)::AV.d (D.i (v32.length:Int))::AV.d (D.i (i36:Int))::dd 62 ([]))),nn 6 (some (OB.box (Server.av v3))::some (OB.box (Policy.av v8))::N::N::N::some (OB.box (Route.av v25))::nn 10 (some (OB.box (Deck.av v21))::nn 119 ([])))⟩) ?_ ?_ ?_
        ·exact wk
        ·rintro v37 K38 h;(conv=>whnf);refine .go ?_;(conv=>whnf);refine sel_f lt_f ?_;exact join_end wk h
        ·rintro next39 i36 x40 v37 K38 hii36 hxi36 hwi36 h hK41;(conv=>whnf);refine .go ?_;(conv=>whnf);refine sel_t (lt_t hii36) ?_;(conv=>whnf);refine .go ?_;refine ⟨idx_b (f:=D.i) hii36,D.i x40,hxi36,rfl,?_⟩;revert h;refine cut_join (fun v42=>⟨dd 5 (AV.ref 22 0::AV.ref 6 0::AV.ref 7 0::AV.d (D.l 16 Route.toD v10)::AV.d (D.i v13)::X::AV.ref 11 0::X::AV.d (D.b v42)::dd 63 (AV.d (D.l 1 D.i v32)::AV.d (D.i (v32.length:Int))::AV.d (D.i (i36:Int))::dd 62 ([]))),nn 6 (some (OB.box (Server.av v3))::some (OB.box (Policy.av v8))::N::N::N::some (OB.box (Route.av v25))::nn 10 (some (OB.box (Deck.av v21))::nn 119 ([])))⟩) ?_ ?_
         ·intro k43 h;revert h;refine sel_if ?_ ?_<;>intro h
          ·exact join_end wk h
          ·exact join_end wk h
         ·rintro v42 h;refine ⟨_,hwi36,?_⟩;exact hK41 _ _ wk h
       ·rintro v34 h;(conv=>whnf);refine dOB (by kernel_rfl) ?_;obtain ⟨v44,g45,h⟩:=bind_inv h;refine ⟨_,_,ref28_At_ok g45,.inl rfl,?_⟩;obtain ⟨v46,g47,h⟩:=bind_inv h;refine ⟨geti_b (f:=RIB.toD) g47,RIB.toD v46,geti_d (f:=RIB.toD) g47,rfl,?_⟩;(conv=>whnf);refine cOB (by kernel_rfl) ?_;obtain ⟨v48,g49,h⟩:=bind_inv h;refine ⟨_,_,some [],ref24_Widen_ok g49,?_⟩;refine ⟨v48.length,List.length_map _,?_⟩;revert h;refine cut_join (fun v50=>⟨dd 5 (AV.ref 22 0::AV.ref 6 0::AV.ref 7 0::AV.d (D.l 16 Route.toD v10)::AV.d (D.i v13)::X::AV.ref 11 0::X::AV.d (D.b v34)::X::X::AV.ref 16 0::AV.ref 17 0::AV.d (D.b v50)::dd 123 ([])),nn 6 (some (OB.box (Server.av v3))::some (OB.box (Policy.av v8))::N::N::N::some (OB.box (Route.av v25))::nn 4 (some (OB.box (RIB.av v46))::some (OB.box [AV.d (D.l 3 Set.toD v3.Filter.Registry.Sets),AV.d (D.l 6 Object.toD v48)])::nn 4 (some (OB.box (Deck.av v21))::nn 119 ([]))))⟩) ?_ ?_
        ·intro k51 h;revert h;refine loop_for 107 6 Object.toD rfl (fun i52 v53=>⟨dd 5 (AV.ref 22 0::AV.ref 6 0::AV.ref 7 0::AV.d (D.l 16 Route.toD v10)::AV.d (D.i v13)::X::AV.ref 11 0::X::AV.d (D.b v34)::X::X::AV.ref 16 0::AV.ref 17 0::AV.d (D.b v53)::dd 88 (AV.d (D.l 6 Object.toD v48)::AV.d (D.i (v48.length:Int))::AV.d (D.i (i52:Int))::dd 32 ([]))),nn 6 (some (OB.box (Server.av v3))::some (OB.box (Policy.av v8))::N::N::N::some (OB.box (Route.av v25))::nn 4 (some (OB.box (RIB.av v46))::some (OB.box [AV.d (D.l 3 Set.toD v3.Filter.Registry.Sets),AV.d (D.l 6 Object.toD v48)])::nn 4 (some (OB.box (Deck.av v21))::nn 119 ([]))))⟩) ?_ ?_ ?_
         ·exact wk
         ·rintro v53 K54 h;(conv=>whnf);refine .go ?_;(conv=>whnf);refine sel_f lt_f ?_;exact join_end wk h
         ·rintro next55 i52 x56 v53 K54 hii52 hxi52 hwi52 h hK57;(conv=>whnf);refine .go ?_;(conv=>whnf);refine sel_t (lt_t hii52) ?_;(conv=>whnf);refine .go ?_;refine ⟨idx_b (f:=Object.toD) hii52,Object.toD x56,hxi52,rfl,?_⟩;revert h;refine cut_join (fun v58=>⟨dd 5 (AV.ref 22 0::AV.ref 6 0::AV.ref 7 0::AV.d (D.l 16 Route.toD v10)::AV.d (D.i v13)::X::AV.ref 11 0::X::AV.d (D.b v34)::X::X::AV.ref 16 0::AV.ref 17 0::AV.d (D.b v58)::dd 88 (AV.d (D.l 6 Object.toD v48)::AV.d (D.i (v48.length:Int))::AV.d (D.i (i52:Int))::dd 32 ([]))),nn 6 (some (OB.box (Server.av v3))::some (OB.box (Policy.av v8))::N::N::N::some (OB.box (Route.av v25))::nn 4 (some (OB.box (RIB.av v46))::some (OB.box [AV.d (D.l 3 Set.toD v3.Filter.Registry.Sets),AV.d (D.l 6 Object.toD v48)])::nn 4 (some (OB.box (Deck.av v21))::nn 119 ([]))))⟩) ?_ ?_
          ·intro k59 h;revert h;refine sel_if ?_ ?_<;>intro h
           ·exact join_end wk h
           ·obtain ⟨v60,g61,h⟩:=bind_inv h;refine ⟨_,_,some [],ref02_Covers_ok g61,?_⟩;exact join_end wk h
          ·rintro v58 h;refine ⟨_,hwi52,?_⟩;exact hK57 _ _ wk h
        ·rintro v50 h;revert h;refine cut_join (fun v62=>⟨dd 5 (AV.ref 22 0::AV.ref 6 0::AV.ref 7 0::AV.d (D.l 16 Route.toD v10)::AV.d (D.i v13)::dd 130 (AV.d (D.b v62)::X::[])),nn 6 (some (OB.box (Server.av v3))::some (OB.box (Policy.av v8))::nn 14 (some (OB.box (Deck.av v21))::nn 119 ([])))⟩) ?_ ?_
         ·intro k63 h;revert h;refine sel_if ?_ ?_<;>intro h
          ·exact join_end wk h
          ·revert h;refine sel_if ?_ ?_<;>intro h
           ·exact join_end wk h
           ·obtain ⟨v64,g65,h⟩:=bind_inv h;refine ⟨_,_,some [],ref20_Valid_ok g65,?_⟩;revert h;refine sel_if ?_ ?_<;>intro h
            ·exact join_end wk h
            ·exact join_end wk h
         ·rintro v62 h;(conv=>whnf);refine .go ?_;revert h;refine sel_if ?_ ?_<;>intro h
          ·cases h;exact ⟨rfl,rfl⟩
          ·exact join_end wk h
   ·rintro v18 h;refine ⟨_,rfl,?_⟩;exact hK17 _ _ wk h
  ·exact join_end wk h
 ·rintro _ h;obtain ⟨v66,g67,h⟩:=bind_inv h;refine ⟨_,_,some [],law35_awake_ok g67,?_⟩;cases h;exact ⟨rfl,rfl⟩
end Go.AX.Q35
end
