/-
  Texts of one proof, packed: Q18P12 Q18P13 Q18P14 Q18P15 Q18P16 Q18P17 Q18P18.
-/
import Derived.Test.YtbhoockehnpdoaaDoorK4
set_option linter.all false
section
namespace Go.AX.Q18
open Go Go.AX Go.Proofs
set_option maxRecDepth 100000
set_option maxHeartbeats 4000000
set_option linter.unusedVariables false
theorem ref18_Read_ok {wl:Prop} {a0:List Unknown} {r:Attrs×Int} (h:ref18_Read a0=some r):CallsOK (Wl wl) Tryd.prog 13 [AV.d (D.l 3 Unknown.toD a0)] [] (.tup [.d (Attrs.toD r.1),.d (D.i r.2)]) []:=by
 refine okx 200 Tryd.f13 (by kernel_rfl) (by kernel_rfl) ⟨rfl,?_⟩;unfold ref18_Read at h;obtain ⟨v1,g2,h⟩:=bind_inv h;refine ⟨_,_,some [],ref18_first_ok g2,?_⟩;refine ⟨v1.length,List.length_map _,?_⟩;revert h;refine cut_join (fun _=>⟨AV.d (D.l 3 Unknown.toD v1)::X::AV.ref 2 0::dd 110 ([]),N::N::some (OB.box Attrs.zv)::nn 310 ([])⟩) ?_ ?_
 ·intro k3 h;revert h;refine loop_for 15 3 Unknown.toD rfl (fun i4 _=>⟨AV.d (D.l 3 Unknown.toD v1)::X::AV.ref 2 0::dd 12 (AV.d (D.l 3 Unknown.toD v1)::AV.d (D.i (v1.length:Int))::AV.d (D.i (i4:Int))::dd 95 ([])),N::N::some (OB.box Attrs.zv)::nn 310 ([])⟩) ?_ ?_ ?_
  ·exact wk
  ·rintro _ K5 h;(conv=>whnf);refine .go ?_;(conv=>whnf);refine sel_f lt_f ?_;exact join_end wk h
  ·rintro next6 i4 x7 _ K5 hii4 hxi4 hwi4 h hK8;(conv=>whnf);refine .go ?_;(conv=>whnf);refine sel_t (lt_t hii4) ?_;(conv=>whnf);refine .go ?_;refine ⟨idx_b (f:=Unknown.toD) hii4,Unknown.toD x7,hxi4,rfl,?_⟩;revert h;refine cut_join (fun v9=>⟨AV.d (D.l 3 Unknown.toD v1)::X::AV.ref 2 0::dd 12 (AV.d (D.l 3 Unknown.toD v1)::AV.d (D.i (v1.length:Int))::AV.d (D.i (i4:Int))::dd 11 (AV.d (D.b v9)::dd 83 ([]))),N::N::some (OB.box Attrs.zv)::nn 310 ([])⟩) ?_ ?_
   ·intro k10 h;obtain ⟨v11,g12,h⟩:=bind_inv h;refine ⟨_,_,some [],ref18_unknown_ok g12,?_⟩;revert h;refine sel_if ?_ ?_<;>intro h
    ·refine ⟨_,rfl,?_⟩;exact join_end wk h
    ·exact join_end wk h
   ·rintro v9 h;(conv=>whnf);refine .go ?_;revert h;refine sel_if ?_ ?_<;>intro h
    ·cases h;exact ⟨rfl,rfl⟩
    ·refine ⟨_,hwi4,?_⟩;exact hK8 _ _ wk h
 ·rintro _ h;revert h;refine cut_join (fun _=>⟨AV.d (D.l 3 Unknown.toD v1)::X::AV.ref 2 0::dd 29 (AV.d (D.agg [D.i (-1),D.nil 2,D.b false,D.u64 (0:UInt64),D.u64 (0:UInt64),D.i (-1),D.i (-1),D.i (-1),D.nil 2,D.nil 3,D.nil 3])::dd 80 ([])),N::N::some (OB.box Attrs.zv)::nn 310 ([])⟩) ?_ ?_
  ·intro k13 h;(conv=>whnf);refine inl Tryd.f44 113 (by kernel_rfl) (by kernel_rfl) ⟨rfl,?_⟩;exact join_end wk h
  ·rintro _ h;refine ⟨v1.length,List.length_map _,?_⟩;revert h;refine cut_join (fun (v14,v15,v16,v17,v18,v19,v20,v21,v22,v23)=>⟨AV.d (D.l 3 Unknown.toD v1)::X::AV.ref 2 0::X::X::X::AV.ref 6 0::dd 106 ([]),N::N::some (OB.box Attrs.zv)::N::N::N::some (OB.box [AV.d (D.i v14),AV.d (D.l 2 Segment.toD v15),AV.d (D.b v16),AV.d (D.u64 v17),AV.d (D.u64 v18),AV.d (D.i v19),AV.d (D.i v20),AV.d (D.i v21),AV.d (D.l 2 Community.toD v22),AV.d (D.l 3 Large.toD v23),AV.d (D.nil 3)])::nn 306 ([])⟩) ?_ ?_
   ·intro k24 h;revert h;refine loop_for 33 3 Unknown.toD rfl (fun i25 (v26,v27,v28,v29,v30,v31,v32,v33,v34,v35)=>⟨AV.d (D.l 3 Unknown.toD v1)::X::AV.ref 2 0::X::X::X::AV.ref 6 0::dd 26 (AV.d (D.l 3 Unknown.toD v1)::AV.d (D.i (v1.length:Int))::AV.d (D.i (i25:Int))::dd 77 ([])),N::N::some (OB.box Attrs.zv)::N::N::N::some (OB.box [AV.d (D.i v26),AV.d (D.l 2 Segment.toD v27),AV.d (D.b v28),AV.d (D.u64 v29),AV.d (D.u64 v30),AV.d (D.i v31),AV.d (D.i v32),AV.d (D.i v33),AV.d (D.l 2 Community.toD v34),AV.d (D.l 3 Large.toD v35),AV.d (D.nil 3)])::nn 306 ([])⟩) ?_ ?_ ?_
    ·exact wk
    ·rintro ⟨v26,v27,v28,v29,v30,v31,v32,v33,v34,v35⟩ K36 h;(conv=>whnf);refine .go ?_;(conv=>whnf);refine sel_f lt_f ?_;exact join_end wk h
    ·rintro next37 i25 x38 ⟨v26,v27,v28,v29,v30,v31,v32,v33,v34,v35⟩ K36 hii25 hxi25 hwi25 h hK39;(conv=>whnf);refine .go ?_;(conv=>whnf);refine sel_t (lt_t hii25) ?_;revert h;refine cut_join (fun (v40,v41,v42,v43,v44,v45,v46,v47,v48,v49)=>⟨AV.d (D.l 3 Unknown.toD v1)::X::AV.ref 2 0::X::X::X::AV.ref 6 0::dd 26 (AV.d (D.l 3 Unknown.toD v1)::AV.d (D.i (v1.length:Int))::AV.d (D.i (i25:Int))::dd 77 ([])),N::N::some (OB.box Attrs.zv)::N::N::N::some (OB.box [AV.d (D.i v40),AV.d (D.l 2 Segment.toD v41),AV.d (D.b v42),AV.d (D.u64 v43),AV.d (D.u64 v44),AV.d (D.i v45),AV.d (D.i v46),AV.d (D.i v47),AV.d (D.l 2 Community.toD v48),AV.d (D.l 3 Large.toD v49),AV.d (D.nil 3)])::nn 306 ([])⟩) ?_ ?_
     ·intro k50 h;refine ⟨idx_b (f:=Unknown.toD) hii25,Unknown.toD x38,hxi25,rfl,?_⟩;obtain ⟨v51,g52,h⟩:=bind_inv h;refine ⟨_,_,some [],ref18_flags_ok g52,?_⟩;(conv=>whnf);refine .go ?_;revert h;refine sel_if ?_ ?_<;>intro h
      ·exact join_end wk h
      ·revert h;refine cut_join (fun (v53,v54,v55,v56,v57,v58,v59,v60,v61,v62,v63)=>⟨AV.d (D.l 3 Unknown.toD v1)::X::AV.ref 2 0::X::X::X::AV.ref 6 0::dd 26 (AV.d (D.l 3 Unknown.toD v1)::AV.d (D.i (v1.length:Int))::AV.d (D.i (i25:Int))::dd 27 (AV.d (D.b v53)::dd 49 ([]))),N::N::some (OB.box Attrs.zv)::N::N::N::some (OB.box [AV.d (D.i v54),AV.d (D.l 2 Segment.toD v55),AV.d (D.b v56),AV.d (D.u64 v57),AV.d (D.u64 v58),AV.d (D.i v59),AV.d (D.i v60),AV.d (D.i v61),AV.d (D.l 2 Community.toD v62),AV.d (D.l 3 Large.toD v63),AV.d (D.nil 3)])::nn 306 ([])⟩) ?_ ?_
       ·intro k64 h;refine ⟨_,rfl,?_⟩;revert h;refine sel_if ?_ ?_<;>intro h
        ·exact join_end wk h
        ·revert h;refine sel_if ?_ ?_<;>intro h
         ·refine ⟨_,rfl,?_⟩;revert h;refine sel_if ?_ ?_<;>intro h
          ·exact join_end wk h
          ·revert h;refine cut_join (fun (v65,v66,v67,v68,v69,v70,v71,v72,v73,v74,v75)=>⟨AV.d (D.l 3 Unknown.toD v1)::X::AV.ref 2 0::X::X::X::AV.ref 6 0::dd 26 (AV.d (D.l 3 Unknown.toD v1)::AV.d (D.i (v1.length:Int))::AV.d (D.i (i25:Int))::dd 23 (AV.d (D.b false)::X::AV.d (D.b v65)::dd 51 ([]))),N::N::some (OB.box Attrs.zv)::N::N::N::some (OB.box [AV.d (D.i v66),AV.d (D.l 2 Segment.toD v67),AV.d (D.b v68),AV.d (D.u64 v69),AV.d (D.u64 v70),AV.d (D.i v71),AV.d (D.i v72),AV.d (D.i v73),AV.d (D.l 2 Community.toD v74),AV.d (D.l 3 Large.toD v75),AV.d (D.nil 3)])::nn 306 ([])⟩) ?_ ?_
           ·intro k76 h;(conv=>whnf);refine inl Tryd.f46 113 (by kernel_rfl) (by kernel_rfl) ⟨rfl,?_⟩;refine ⟨x38.Data.length,List.length_map _,?_⟩;revert h;refine cut_join (fun (v77,v78,v79,v80,v81,v82,v83,v84,v85)=>⟨dd 200 ([]),N::N::some (OB.box Attrs.zv)::N::N::N::some (OB.box [AV.d (D.i v77),AV.d (D.l 2 Segment.toD v27),AV.d (D.b v78),AV.d (D.u64 v79),AV.d (D.u64 v80),AV.d (D.i v81),AV.d (D.i v82),AV.d (D.i v83),AV.d (D.l 2 Community.toD v84),AV.d (D.l 3 Large.toD v85),AV.d (D.nil 3)])::N::some (OB.box (Unknown.av x38))::nn 304 ([])⟩) ?_ ?_
            ·intro k86 h;revert h;refine cut_join (fun (v87,v88,v89,v90,v91,v92,v93,v94,v95)=>⟨dd 200 ([]),N::N::some (OB.box Attrs.zv)::N::N::N::some (OB.box [AV.d (D.i v87),AV.d (D.l 2 Segment.toD v27),AV.d (D.b v88),AV.d (D.u64 v89),AV.d (D.u64 v90),AV.d (D.i v91),AV.d (D.i v92),AV.d (D.i v93),AV.d (D.l 2 Community.toD v94),AV.d (D.l 3 Large.toD v95),AV.d (D.nil 3)])::N::some (OB.box (Unknown.av x38))::nn 304 ([])⟩) ?_ ?_
             ·intro k96 h;revert h;refine sel_if ?_ ?_<;>intro h
              ·revert h;refine cut_join (fun v97=>⟨AV.ref 6 0::X::X::AV.ref 116 0::dd 22 (AV.d (D.b v97)::dd 173 ([])),N::N::some (OB.box Attrs.zv)::N::N::N::some (OB.box [AV.d (D.i v26),AV.d (D.l 2 Segment.toD v27),AV.d (D.b v28),AV.d (D.u64 v29),AV.d (D.u64 v30),AV.d (D.i v31),AV.d (D.i v32),AV.d (D.i v33),AV.d (D.l 2 Community.toD v34),AV.d (D.l 3 Large.toD v35),AV.d (D.nil 3)])::N::some (OB.box (Unknown.av x38))::nn 107 (some (OB.box (Unknown.av x38))::nn 196 ([]))⟩) ?_ ?_
               ·intro k98 h;revert h;refine sel_if ?_ ?_<;>intro h
                ·exact join_end wk h
                ·obtain ⟨v99,g100,h⟩:=bind_inv h;refine ⟨geti_b (f:=D.u8) g100,D.u8 v99,geti_d (f:=D.u8) g100,rfl,?_⟩;exact join_end wk h
               ·rintro v97 h;(conv=>whnf);refine .go ?_;revert h;refine sel_if ?_ ?_<;>intro h
                ·exact join_end wk h
                ·obtain ⟨v101,g102,h⟩:=bind_inv h;refine ⟨geti_b (f:=D.u8) g102,D.u8 v101,geti_d (f:=D.u8) g102,rfl,?_⟩;refine ⟨_,i64_of_u8 v101,?_⟩;exact join_end wk h
              ·(conv=>whnf);refine .go ?_;revert h;refine sel_if ?_ ?_<;>intro h
               ·obtain ⟨⟨v103,v104⟩,g105,h⟩:=bind_inv h;refine ⟨_,_,some [],ref18_path_ok g105,?_⟩;exact join_end wk h
               ·revert h;refine cut_join (fun (v106,v107,v108,v109,v110,v111,v112,v113)=>⟨dd 200 ([]),N::N::some (OB.box Attrs.zv)::N::N::N::some (OB.box [AV.d (D.i v26),AV.d (D.l 2 Segment.toD v27),AV.d (D.b v106),AV.d (D.u64 v107),AV.d (D.u64 v108),AV.d (D.i v109),AV.d (D.i v110),AV.d (D.i v111),AV.d (D.l 2 Community.toD v112),AV.d (D.l 3 Large.toD v113),AV.d (D.nil 3)])::N::some (OB.box (Unknown.av x38))::nn 304 ([])⟩) ?_ ?_
                ·intro k114 h;revert h;refine sel_if ?_ ?_<;>intro h
                 ·(conv=>whnf);refine .go ?_;revert h;refine sel_if ?_ ?_<;>intro h
                  ·exact join_end wk h
                  ·obtain ⟨⟨v115,v116⟩,g117,h⟩:=bind_inv h;refine ⟨_,_,some [],ref01_FromBytes_ok g117,?_⟩;exact join_end wk h
                 ·revert h;refine cut_join (fun v118=>⟨AV.ref 6 0::X::X::AV.ref 116 0::X::AV.d (D.i (x38.Data.length:Int))::dd 9 (AV.d (D.i x38.Type_)::dd 45 (AV.d (D.b v118)::dd 138 ([]))),N::N::some (OB.box Attrs.zv)::N::N::N::some (OB.box [AV.d (D.i v26),AV.d (D.l 2 Segment.toD v27),AV.d (D.b v28),AV.d (D.u64 v29),AV.d (D.u64 v30),AV.d (D.i v31),AV.d (D.i v32),AV.d (D.i v33),AV.d (D.l 2 Community.toD v34),AV.d (D.l 3 Large.toD v35),AV.d (D.nil 3)])::N::some (OB.box (Unknown.av x38))::nn 107 (some (OB.box (Unknown.av x38))::nn 196 ([]))⟩) ?_ ?_
                  ·intro k119 h;revert h;refine sel_if ?_ ?_<;>intro h
                   ·exact join_end wk h
                   ·revert h;refine cut_join (fun v120=>⟨AV.ref 6 0::X::X::AV.ref 116 0::X::AV.d (D.i (x38.Data.length:Int))::dd 9 (AV.d (D.i x38.Type_)::dd 45 (AV.d (D.b v120)::dd 138 ([]))),N::N::some (OB.box Attrs.zv)::N::N::N::some (OB.box [AV.d (D.i v26),AV.d (D.l 2 Segment.toD v27),AV.d (D.b v28),AV.d (D.u64 v29),AV.d (D.u64 v30),AV.d (D.i v31),AV.d (D.i v32),AV.d (D.i v33),AV.d (D.l 2 Community.toD v34),AV.d (D.l 3 Large.toD v35),AV.d (D.nil 3)])::N::some (OB.box (Unknown.av x38))::nn 107 (some (OB.box (Unknown.av x38))::nn 196 ([]))⟩) ?_ ?_
                    ·intro k121 h;revert h;refine sel_if ?_ ?_<;>intro h
                     ·exact join_end wk h
                     ·exact join_end wk h
                    ·rintro v120 h;exact join_end wk h
                  ·rintro v118 h;revert h;refine cut_join (fun (v122,v123,v124,v125,v126)=>⟨dd 200 ([]),N::N::some (OB.box Attrs.zv)::N::N::N::some (OB.box [AV.d (D.i v26),AV.d (D.l 2 Segment.toD v27),AV.d (D.b v28),AV.d (D.u64 v29),AV.d (D.u64 v30),AV.d (D.i v122),AV.d (D.i v123),AV.d (D.i v124),AV.d (D.l 2 Community.toD v125),AV.d (D.l 3 Large.toD v126),AV.d (D.nil 3)])::N::some (OB.box (Unknown.av x38))::nn 304 ([])⟩) ?_ ?_
                   ·intro k127 h;revert h;refine sel_if ?_ ?_<;>intro h
                    ·refine ⟨_,rfl,?_⟩;obtain ⟨v128,g129,h⟩:=bind_inv h;refine ⟨part_b (f:=D.u8) g129,_,part_z (f:=D.u8) g129,?_⟩;obtain ⟨v130,g131,h⟩:=bind_inv h;refine ⟨_,_,some [],ref18_number_ok g131,?_⟩;revert h;refine cut_join (fun v132=>⟨AV.ref 6 0::X::X::AV.ref 116 0::dd 4 (AV.d (D.i v130)::dd 72 (AV.d (D.b v132)::dd 118 ([]))),N::N::some (OB.box Attrs.zv)::N::N::N::some (OB.box [AV.d (D.i v26),AV.d (D.l 2 Segment.toD v27),AV.d (D.b v28),AV.d (D.u64 v29),AV.d (D.u64 v30),AV.d (D.i v31),AV.d (D.i v32),AV.d (D.i v33),AV.d (D.l 2 Community.toD v34),AV.d (D.l 3 Large.toD v35),AV.d (D.nil 3)])::N::some (OB.box (Unknown.av x38))::nn 107 (some (OB.box (Unknown.av x38))::nn 196 ([]))⟩) ?_ ?_
                     ·intro k133 h;revert h;refine sel_if ?_ ?_<;>intro h
                      ·exact join_end wk h
                      ·revert h;refine sel_if ?_ ?_<;>intro h
                       ·exact join_end wk h
                       ·exact join_end wk h
                     ·rintro v132 h;(conv=>whnf);refine .go ?_;revert h;refine sel_if ?_ ?_<;>intro h
                      ·exact join_end wk h
                      ·(conv=>whnf);refine .go ?_;revert h;refine cut_join (fun (v134,v135,v136)=>⟨dd 200 ([]),N::N::some (OB.box Attrs.zv)::N::N::N::some (OB.box [AV.d (D.i v26),AV.d (D.l 2 Segment.toD v27),AV.d (D.b v28),AV.d (D.u64 v29),AV.d (D.u64 v30),AV.d (D.i v134),AV.d (D.i v135),AV.d (D.i v136),AV.d (D.l 2 Community.toD v34),AV.d (D.l 3 Large.toD v35),AV.d (D.nil 3)])::N::some (OB.box (Unknown.av x38))::nn 304 ([])⟩) ?_ ?_
                       ·intro k137 h;revert h;refine sel_if ?_ ?_<;>intro h
                        ·exact join_end wk h
                        ·revert h;refine cut_join (fun (v138,v139)=>⟨dd 200 ([]),N::N::some (OB.box Attrs.zv)::N::N::N::some (OB.box [AV.d (D.i v26),AV.d (D.l 2 Segment.toD v27),AV.d (D.b v28),AV.d (D.u64 v29),AV.d (D.u64 v30),AV.d (D.i v31),AV.d (D.i v138),AV.d (D.i v139),AV.d (D.l 2 Community.toD v34),AV.d (D.l 3 Large.toD v35),AV.d (D.nil 3)])::N::some (OB.box (Unknown.av x38))::nn 304 ([])⟩) ?_ ?_
                         ·intro k140 h;revert h;refine sel_if ?_ ?_<;>intro h
                          ·exact join_end wk h
                          ·exact join_end wk h
                         ·rintro ⟨v138,v139⟩ h;exact join_end wk h
                       ·rintro ⟨v134,v135,v136⟩ h;exact join_end wk h
                    ·revert h;refine cut_join (fun (v141,v142)=>⟨dd 200 ([]),N::N::some (OB.box Attrs.zv)::N::N::N::some (OB.box [AV.d (D.i v26),AV.d (D.l 2 Segment.toD v27),AV.d (D.b v28),AV.d (D.u64 v29),AV.d (D.u64 v30),AV.d (D.i v31),AV.d (D.i v32),AV.d (D.i v33),AV.d (D.l 2 Community.toD v141),AV.d (D.l 3 Large.toD v142),AV.d (D.nil 3)])::N::some (OB.box (Unknown.av x38))::nn 304 ([])⟩) ?_ ?_
                     ·intro k143 h;revert h;refine sel_if ?_ ?_<;>intro h
                      ·revert h;refine cut_join (fun v144=>⟨AV.ref 6 0::X::X::AV.ref 116 0::X::AV.d (D.i (x38.Data.length:Int))::dd 107 (AV.d (D.b v144)::dd 86 ([])),N::N::some (OB.box Attrs.zv)::N::N::N::some (OB.box [AV.d (D.i v26),AV.d (D.l 2 Segment.toD v27),AV.d (D.b v28),AV.d (D.u64 v29),AV.d (D.u64 v30),AV.d (D.i v31),AV.d (D.i v32),AV.d (D.i v33),AV.d (D.l 2 Community.toD v34),AV.d (D.l 3 Large.toD v35),AV.d (D.nil 3)])::N::some (OB.box (Unknown.av x38))::nn 107 (some (OB.box (Unknown.av x38))::nn 196 ([]))⟩) ?_ ?_
                       ·intro k145 h;revert h;refine sel_if ?_ ?_<;>intro h
                        ·exact join_end wk h
                        ·refine ⟨by decide,_,rfl,?_⟩;revert h;refine sel_if ?_ ?_<;>intro h
                         ·exact join_end wk h
                         ·refine ⟨by decide,_,rfl,?_⟩;exact join_end wk h
                       ·rintro v144 h;(conv=>whnf);refine .go ?_;revert h;refine sel_if ?_ ?_<;>intro h
                        ·exact join_end wk h
                        ·revert h;refine cut_join (fun v146=>⟨dd 200 ([]),N::N::some (OB.box Attrs.zv)::N::N::N::some (OB.box [AV.d (D.i v26),AV.d (D.l 2 Segment.toD v27),AV.d (D.b v28),AV.d (D.u64 v29),AV.d (D.u64 v30),AV.d (D.i v31),AV.d (D.i v32),AV.d (D.i v33),AV.d (D.l 2 Community.toD v146),AV.d (D.l 3 Large.toD v35),AV.d (D.nil 3)])::N::some (OB.box (Unknown.av x38))::nn 304 ([])⟩) ?_ ?_
                         ·intro k147 h;revert h;refine loop_while (fun (v148,v149)=>⟨AV.ref 6 0::X::X::AV.ref 116 0::X::AV.d (D.i (x38.Data.length:Int))::X::X::X::AV.d (D.i v148)::dd 190 ([]),N::N::some (OB.box Attrs.zv)::N::N::N::some (OB.box [AV.d (D.i v26),AV.d (D.l 2 Segment.toD v27),AV.d (D.b v28),AV.d (D.u64 v29),AV.d (D.u64 v30),AV.d (D.i v31),AV.d (D.i v32),AV.d (D.i v33),AV.d (D.l 2 Community.toD v149),AV.d (D.l 3 Large.toD v35),AV.d (D.nil 3)])::N::some (OB.box (Unknown.av x38))::nn 107 (some (OB.box (Unknown.av x38))::nn 196 ([]))⟩) ?_ ?_
                          ·exact wk
                          rintro next150 ⟨v148,v149⟩ K151 h hK152;(conv=>whnf);refine .go ?_;revert h;refine sel_if ?_ ?_<;>intro h
                          ·(conv=>whnf);refine .go ?_;(conv=>whnf);refine .inl (dOB (by kernel_rfl) ?_);refine ⟨_,rfl,?_⟩;obtain ⟨v153,g154,h⟩:=bind_inv h;refine ⟨part_b (f:=D.u8) g154,_,part_z (f:=D.u8) g154,?_⟩;obtain ⟨v155,g156,h⟩:=bind_inv h;refine ⟨_,_,ref18_number_ok g156,.inl rfl,?_⟩;refine ⟨_,rfl,?_⟩;refine ⟨_,rfl,?_⟩;obtain ⟨v157,g158,h⟩:=bind_inv h;refine ⟨part_b (f:=D.u8) g158,_,part_z (f:=D.u8) g158,?_⟩;obtain ⟨v159,g160,h⟩:=bind_inv h;refine ⟨_,_,ref18_number_ok g160,.inl rfl,?_⟩;obtain ⟨⟨v161,v162⟩,g163,h⟩:=bind_inv h;refine ⟨_,_,ref17_Add_ok g163,.inl rfl,?_⟩;(conv=>whnf);refine cOB (by kernel_rfl) ?_;refine ⟨_,rfl,?_⟩;exact hK152 _ _ wk h
                          ·exact join_end wk h
                         ·rintro v146 h;exact join_end wk h
                      ·revert h;refine cut_join (fun v164=>⟨dd 200 ([]),N::N::some (OB.box Attrs.zv)::N::N::N::some (OB.box [AV.d (D.i v26),AV.d (D.l 2 Segment.toD v27),AV.d (D.b v28),AV.d (D.u64 v29),AV.d (D.u64 v30),AV.d (D.i v31),AV.d (D.i v32),AV.d (D.i v33),AV.d (D.l 2 Community.toD v34),AV.d (D.l 3 Large.toD v164),AV.d (D.nil 3)])::N::some (OB.box (Unknown.av x38))::nn 304 ([])⟩) ?_ ?_
                       ·intro k165 h;revert h;refine sel_if ?_ ?_<;>intro h
                        ·revert h;refine cut_join (fun v166=>⟨AV.ref 6 0::X::X::AV.ref 116 0::X::AV.d (D.i (x38.Data.length:Int))::dd 153 (AV.d (D.b v166)::dd 40 ([])),N::N::some (OB.box Attrs.zv)::N::N::N::some (OB.box [AV.d (D.i v26),AV.d (D.l 2 Segment.toD v27),AV.d (D.b v28),AV.d (D.u64 v29),AV.d (D.u64 v30),AV.d (D.i v31),AV.d (D.i v32),AV.d (D.i v33),AV.d (D.l 2 Community.toD v34),AV.d (D.l 3 Large.toD v35),AV.d (D.nil 3)])::N::some (OB.box (Unknown.av x38))::nn 107 (some (OB.box (Unknown.av x38))::nn 196 ([]))⟩) ?_ ?_
                         ·intro k167 h;revert h;refine sel_if ?_ ?_<;>intro h
                          ·exact join_end wk h
                          ·refine ⟨by decide,_,rfl,?_⟩;revert h;refine sel_if ?_ ?_<;>intro h
                           ·exact join_end wk h
                           ·refine ⟨by decide,_,rfl,?_⟩;exact join_end wk h
                         ·rintro v166 h;(conv=>whnf);refine .go ?_;revert h;refine sel_if ?_ ?_<;>intro h
                          ·exact join_end wk h
                          ·revert h;refine cut_join (fun v168=>⟨dd 200 ([]),N::N::some (OB.box Attrs.zv)::N::N::N::some (OB.box [AV.d (D.i v26),AV.d (D.l 2 Segment.toD v27),AV.d (D.b v28),AV.d (D.u64 v29),AV.d (D.u64 v30),AV.d (D.i v31),AV.d (D.i v32),AV.d (D.i v33),AV.d (D.l 2 Community.toD v34),AV.d (D.l 3 Large.toD v168),AV.d (D.nil 3)])::N::some (OB.box (Unknown.av x38))::nn 304 ([])⟩) ?_ ?_
                           ·intro k169 h;revert h;refine loop_while (fun (v170,v171)=>⟨AV.ref 6 0::X::X::AV.ref 116 0::X::AV.d (D.i (x38.Data.length:Int))::dd 4 (AV.d (D.i v170)::dd 189 ([])),N::N::some (OB.box Attrs.zv)::N::N::N::some (OB.box [AV.d (D.i v26),AV.d (D.l 2 Segment.toD v27),AV.d (D.b v28),AV.d (D.u64 v29),AV.d (D.u64 v30),AV.d (D.i v31),AV.d (D.i v32),AV.d (D.i v33),AV.d (D.l 2 Community.toD v34),AV.d (D.l 3 Large.toD v171),AV.d (D.nil 3)])::N::some (OB.box (Unknown.av x38))::nn 107 (some (OB.box (Unknown.av x38))::nn 196 ([]))⟩) ?_ ?_
                            ·exact wk
                            rintro next172 ⟨v170,v171⟩ K173 h hK174;(conv=>whnf);refine .go ?_;revert h;refine sel_if ?_ ?_<;>intro h
                            ·(conv=>whnf);refine .go ?_;(conv=>whnf);refine .inl (dOB (by kernel_rfl) ?_);refine ⟨_,rfl,?_⟩;obtain ⟨v175,g176,h⟩:=bind_inv h;refine ⟨part_b (f:=D.u8) g176,_,part_z (f:=D.u8) g176,?_⟩;obtain ⟨v177,g178,h⟩:=bind_inv h;refine ⟨_,_,ref18_number_ok g178,.inl rfl,?_⟩;refine ⟨_,rfl,?_⟩;refine ⟨_,rfl,?_⟩;obtain ⟨v179,g180,h⟩:=bind_inv h;refine ⟨part_b (f:=D.u8) g180,_,part_z (f:=D.u8) g180,?_⟩;obtain ⟨v181,g182,h⟩:=bind_inv h;refine ⟨_,_,ref18_number_ok g182,.inl rfl,?_⟩;refine ⟨_,rfl,?_⟩;refine ⟨_,rfl,?_⟩;obtain ⟨v183,g184,h⟩:=bind_inv h;refine ⟨part_b (f:=D.u8) g184,_,part_z (f:=D.u8) g184,?_⟩;obtain ⟨v185,g186,h⟩:=bind_inv h;refine ⟨_,_,ref18_number_ok g186,.inl rfl,?_⟩;obtain ⟨⟨v187,v188⟩,g189,h⟩:=bind_inv h;refine ⟨_,_,ref17_AddLarge_ok g189,.inl rfl,?_⟩;(conv=>whnf);refine cOB (by kernel_rfl) ?_;refine ⟨_,rfl,?_⟩;exact hK174 _ _ wk h
                            ·exact join_end wk h
                           ·rintro v168 h;exact join_end wk h
                        ·exact join_end wk h
                       ·rintro v164 h;exact join_end wk h
                     ·rintro ⟨v141,v142⟩ h;exact join_end wk h
                   ·rintro ⟨v122,v123,v124,v125,v126⟩ h;exact join_end wk h
                ·rintro ⟨v106,v107,v108,v109,v110,v111,v112,v113⟩ h;exact join_end wk h
             ·rintro ⟨v87,v88,v89,v90,v91,v92,v93,v94,v95⟩ h;exact join_end wk h
            ·rintro ⟨v77,v78,v79,v80,v81,v82,v83,v84,v85⟩ h;exact join_end wk h
           ·rintro ⟨v65,v66,v67,v68,v69,v70,v71,v72,v73,v74,v75⟩ h;exact join_end wk h
         ·revert h;refine cut_join (fun (v190,v191,v192,v193,v194,v195,v196,v197,v198,v199,v200)=>⟨AV.d (D.l 3 Unknown.toD v1)::X::AV.ref 2 0::X::X::X::AV.ref 6 0::dd 26 (AV.d (D.l 3 Unknown.toD v1)::AV.d (D.i (v1.length:Int))::AV.d (D.i (i25:Int))::dd 23 (AV.d (D.b false)::X::AV.d (D.b v190)::dd 51 ([]))),N::N::some (OB.box Attrs.zv)::N::N::N::some (OB.box [AV.d (D.i v191),AV.d (D.l 2 Segment.toD v192),AV.d (D.b v193),AV.d (D.u64 v194),AV.d (D.u64 v195),AV.d (D.i v196),AV.d (D.i v197),AV.d (D.i v198),AV.d (D.l 2 Community.toD v199),AV.d (D.l 3 Large.toD v200),AV.d (D.nil 3)])::nn 306 ([])⟩) ?_ ?_
          ·intro k201 h;(conv=>whnf);refine inl Tryd.f46 113 (by kernel_rfl) (by kernel_rfl) ⟨rfl,?_⟩;refine ⟨x38.Data.length,List.length_map _,?_⟩;revert h;refine cut_join (fun (v202,v203,v204,v205,v206,v207,v208,v209,v210)=>⟨dd 200 ([]),N::N::some (OB.box Attrs.zv)::N::N::N::some (OB.box [AV.d (D.i v202),AV.d (D.l 2 Segment.toD v27),AV.d (D.b v203),AV.d (D.u64 v204),AV.d (D.u64 v205),AV.d (D.i v206),AV.d (D.i v207),AV.d (D.i v208),AV.d (D.l 2 Community.toD v209),AV.d (D.l 3 Large.toD v210),AV.d (D.nil 3)])::N::some (OB.box (Unknown.av x38))::nn 304 ([])⟩) ?_ ?_
           ·intro k211 h;revert h;refine cut_join (fun (v212,v213,v214,v215,v216,v217,v218,v219,v220)=>⟨dd 200 ([]),N::N::some (OB.box Attrs.zv)::N::N::N::some (OB.box [AV.d (D.i v212),AV.d (D.l 2 Segment.toD v27),AV.d (D.b v213),AV.d (D.u64 v214),AV.d (D.u64 v215),AV.d (D.i v216),AV.d (D.i v217),AV.d (D.i v218),AV.d (D.l 2 Community.toD v219),AV.d (D.l 3 Large.toD v220),AV.d (D.nil 3)])::N::some (OB.box (Unknown.av x38))::nn 304 ([])⟩) ?_ ?_
            ·intro k221 h;revert h;refine sel_if ?_ ?_<;>intro h
             ·revert h;refine cut_join (fun v222=>⟨AV.ref 6 0::X::X::AV.ref 116 0::dd 22 (AV.d (D.b v222)::dd 173 ([])),N::N::some (OB.box Attrs.zv)::N::N::N::some (OB.box [AV.d (D.i v26),AV.d (D.l 2 Segment.toD v27),AV.d (D.b v28),AV.d (D.u64 v29),AV.d (D.u64 v30),AV.d (D.i v31),AV.d (D.i v32),AV.d (D.i v33),AV.d (D.l 2 Community.toD v34),AV.d (D.l 3 Large.toD v35),AV.d (D.nil 3)])::N::some (OB.box (Unknown.av x38))::nn 107 (some (OB.box (Unknown.av x38))::nn 196 ([]))⟩) ?_ ?_
              ·intro k223 h;revert h;refine sel_if ?_ ?_<;>intro h
               ·exact join_end wk h
               ·obtain ⟨v224,g225,h⟩:=bind_inv h;refine ⟨geti_b (f:=D.u8) g225,D.u8 v224,geti_d (f:=D.u8) g225,rfl,?_⟩;exact join_end wk h
              ·rintro v222 h;(conv=>whnf);refine .go ?_;revert h;refine sel_if ?_ ?_<;>intro h
               ·exact join_end wk h
               ·obtain ⟨v226,g227,h⟩:=bind_inv h;refine ⟨geti_b (f:=D.u8) g227,D.u8 v226,geti_d (f:=D.u8) g227,rfl,?_⟩;refine ⟨_,i64_of_u8 v226,?_⟩;exact join_end wk h
             ·(conv=>whnf);refine .go ?_;revert h;refine sel_if ?_ ?_<;>intro h
              ·obtain ⟨⟨v228,v229⟩,g230,h⟩:=bind_inv h;refine ⟨_,_,some [],ref18_path_ok g230,?_⟩;exact join_end wk h
              ·revert h;refine cut_join (fun (v231,v232,v233,v234,v235,v236,v237,v238)=>⟨dd 200 ([]),N::N::some (OB.box Attrs.zv)::N::N::N::some (OB.box [AV.d (D.i v26),AV.d (D.l 2 Segment.toD v27),AV.d (D.b v231),AV.d (D.u64 v232),AV.d (D.u64 v233),AV.d (D.i v234),AV.d (D.i v235),AV.d (D.i v236),AV.d (D.l 2 Community.toD v237),AV.d (D.l 3 Large.toD v238),AV.d (D.nil 3)])::N::some (OB.box (Unknown.av x38))::nn 304 ([])⟩) ?_ ?_
               ·intro k239 h;revert h;refine sel_if ?_ ?_<;>intro h
                ·(conv=>whnf);refine .go ?_;revert h;refine sel_if ?_ ?_<;>intro h
                 ·exact join_end wk h
                 ·obtain ⟨⟨v240,v241⟩,g242,h⟩:=bind_inv h;refine ⟨_,_,some [],ref01_FromBytes_ok g242,?_⟩;exact join_end wk h
                ·revert h;refine cut_join (fun v243=>⟨AV.ref 6 0::X::X::AV.ref 116 0::X::AV.d (D.i (x38.Data.length:Int))::dd 9 (AV.d (D.i x38.Type_)::dd 45 (AV.d (D.b v243)::dd 138 ([]))),N::N::some (OB.box Attrs.zv)::N::N::N::some (OB.box [AV.d (D.i v26),AV.d (D.l 2 Segment.toD v27),AV.d (D.b v28),AV.d (D.u64 v29),AV.d (D.u64 v30),AV.d (D.i v31),AV.d (D.i v32),AV.d (D.i v33),AV.d (D.l 2 Community.toD v34),AV.d (D.l 3 Large.toD v35),AV.d (D.nil 3)])::N::some (OB.box (Unknown.av x38))::nn 107 (some (OB.box (Unknown.av x38))::nn 196 ([]))⟩) ?_ ?_
                 ·intro k244 h;revert h;refine sel_if ?_ ?_<;>intro h
                  ·exact join_end wk h
                  ·revert h;refine cut_join (fun v245=>⟨AV.ref 6 0::X::X::AV.ref 116 0::X::AV.d (D.i (x38.Data.length:Int))::dd 9 (AV.d (D.i x38.Type_)::dd 45 (AV.d (D.b v245)::dd 138 ([]))),N::N::some (OB.box Attrs.zv)::N::N::N::some (OB.box [AV.d (D.i v26),AV.d (D.l 2 Segment.toD v27),AV.d (D.b v28),AV.d (D.u64 v29),AV.d (D.u64 v30),AV.d (D.i v31),AV.d (D.i v32),AV.d (D.i v33),AV.d (D.l 2 Community.toD v34),AV.d (D.l 3 Large.toD v35),AV.d (D.nil 3)])::N::some (OB.box (Unknown.av x38))::nn 107 (some (OB.box (Unknown.av x38))::nn 196 ([]))⟩) ?_ ?_
                   ·intro k246 h;revert h;refine sel_if ?_ ?_<;>intro h
                    ·exact join_end wk h
                    ·exact join_end wk h
                   ·rintro v245 h;exact join_end wk h
                 ·rintro v243 h;revert h;refine cut_join (fun (v247,v248,v249,v250,v251)=>⟨dd 200 ([]),N::N::some (OB.box Attrs.zv)::N::N::N::some (OB.box [AV.d (D.i v26),AV.d (D.l 2 Segment.toD v27),AV.d (D.b v28),AV.d (D.u64 v29),AV.d (D.u64 v30),AV.d (D.i v247),AV.d (D.i v248),AV.d (D.i v249),AV.d (D.l 2 Community.toD v250),AV.d (D.l 3 Large.toD v251),AV.d (D.nil 3)])::N::some (OB.box (Unknown.av x38))::nn 304 ([])⟩) ?_ ?_
                  ·intro k252 h;revert h;refine sel_if ?_ ?_<;>intro h
                   ·refine ⟨_,rfl,?_⟩;obtain ⟨v253,g254,h⟩:=bind_inv h;refine ⟨part_b (f:=D.u8) g254,_,part_z (f:=D.u8) g254,?_⟩;obtain ⟨v255,g256,h⟩:=bind_inv h;refine ⟨_,_,some [],ref18_number_ok g256,?_⟩;revert h;refine cut_join (fun v257=>⟨AV.ref 6 0::X::X::AV.ref 116 0::dd 4 (AV.d (D.i v255)::dd 72 (AV.d (D.b v257)::dd 118 ([]))),N::N::some (OB.box Attrs.zv)::N::N::N::some (OB.box [AV.d (D.i v26),AV.d (D.l 2 Segment.toD v27),AV.d (D.b v28),AV.d (D.u64 v29),AV.d (D.u64 v30),AV.d (D.i v31),AV.d (D.i v32),AV.d (D.i v33),AV.d (D.l 2 Community.toD v34),AV.d (D.l 3 Large.toD v35),AV.d (D.nil 3)])::N::some (OB.box (Unknown.av x38))::nn 107 (some (OB.box (Unknown.av x38))::nn 196 ([]))⟩) ?_ ?_
                    ·intro k258 h;revert h;refine sel_if ?_ ?_<;>intro h
                     ·exact join_end wk h
                     ·revert h;refine sel_if ?_ ?_<;>intro h
                      ·exact join_end wk h
                      ·exact join_end wk h
                    ·rintro v257 h;(conv=>whnf);refine .go ?_;revert h;refine sel_if ?_ ?_<;>intro h
                     ·exact join_end wk h
                     ·(conv=>whnf);refine .go ?_;revert h;refine cut_join (fun (v259,v260,v261)=>⟨dd 200 ([]),N::N::some (OB.box Attrs.zv)::N::N::N::some (OB.box [AV.d (D.i v26),AV.d (D.l 2 Segment.toD v27),AV.d (D.b v28),AV.d (D.u64 v29),AV.d (D.u64 v30),AV.d (D.i v259),AV.d (D.i v260),AV.d (D.i v261),AV.d (D.l 2 Community.toD v34),AV.d (D.l 3 Large.toD v35),AV.d (D.nil 3)])::N::some (OB.box (Unknown.av x38))::nn 304 ([])⟩) ?_ ?_
                      ·intro k262 h;revert h;refine sel_if ?_ ?_<;>intro h
                       ·exact join_end wk h
                       ·revert h;refine cut_join (fun (v263,v264)=>⟨dd 200 ([]),N::N::some (OB.box Attrs.zv)::N::N::N::some (OB.box [AV.d (D.i v26),AV.d (D.l 2 Segment.toD v27),AV.d (D.b v28),AV.d (D.u64 v29),AV.d (D.u64 v30),AV.d (D.i v31),AV.d (D.i v263),AV.d (D.i v264),AV.d (D.l 2 Community.toD v34),AV.d (D.l 3 Large.toD v35),AV.d (D.nil 3)])::N::some (OB.box (Unknown.av x38))::nn 304 ([])⟩) ?_ ?_
                        ·intro k265 h;revert h;refine sel_if ?_ ?_<;>intro h
                         ·exact join_end wk h
                         ·exact join_end wk h
                        ·rintro ⟨v263,v264⟩ h;exact join_end wk h
                      ·rintro ⟨v259,v260,v261⟩ h;exact join_end wk h
                   ·revert h;refine cut_join (fun (v266,v267)=>⟨dd 200 ([]),N::N::some (OB.box Attrs.zv)::N::N::N::some (OB.box [AV.d (D.i v26),AV.d (D.l 2 Segment.toD v27),AV.d (D.b v28),AV.d (D.u64 v29),AV.d (D.u64 v30),AV.d (D.i v31),AV.d (D.i v32),AV.d (D.i v33),AV.d (D.l 2 Community.toD v266),AV.d (D.l 3 Large.toD v267),AV.d (D.nil 3)])::N::some (OB.box (Unknown.av x38))::nn 304 ([])⟩) ?_ ?_
                    ·intro k268 h;revert h;refine sel_if ?_ ?_<;>intro h
                     ·revert h;refine cut_join (fun v269=>⟨AV.ref 6 0::X::X::AV.ref 116 0::X::AV.d (D.i (x38.Data.length:Int))::dd 107 (AV.d (D.b v269)::dd 86 ([])),N::N::some (OB.box Attrs.zv)::N::N::N::some (OB.box [AV.d (D.i v26),AV.d (D.l 2 Segment.toD v27),AV.d (D.b v28),AV.d (D.u64 v29),AV.d (D.u64 v30),AV.d (D.i v31),AV.d (D.i v32),AV.d (D.i v33),AV.d (D.l 2 Community.toD v34),AV.d (D.l 3 Large.toD v35),AV.d (D.nil 3)])::N::some (OB.box (Unknown.av x38))::nn 107 (some (OB.box (Unknown.av x38))::nn 196 ([]))⟩) ?_ ?_
                      ·intro k270 h;revert h;refine sel_if ?_ ?_<;>intro h
                       ·exact join_end wk h
                       ·refine ⟨by decide,_,rfl,?_⟩;revert h;refine sel_if ?_ ?_<;>intro h
                        ·exact join_end wk h
                        ·refine ⟨by decide,_,rfl,?_⟩;exact join_end wk h
                      ·rintro v269 h;(conv=>whnf);refine .go ?_;revert h;refine sel_if ?_ ?_<;>intro h
                       ·exact join_end wk h
                       ·revert h;refine cut_join (fun v271=>⟨dd 200 ([]),N::N::some (OB.box Attrs.zv)::N::N::N::some (OB.box [AV.d (D.i v26),AV.d (D.l 2 Segment.toD v27),AV.d (D.b v28),AV.d (D.u64 v29),AV.d (D.u64 v30),AV.d (D.i v31),AV.d (D.i v32),AV.d (D.i v33),AV.d (D.l 2 Community.toD v271),AV.d (D.l 3 Large.toD v35),AV.d (D.nil 3)])::N::some (OB.box (Unknown.av x38))::nn 304 ([])⟩) ?_ ?_
                        ·intro k272 h;revert h;refine loop_while (fun (v273,v274)=>⟨AV.ref 6 0::X::X::AV.ref 116 0::X::AV.d (D.i (x38.Data.length:Int))::X::X::X::AV.d (D.i v273)::dd 190 ([]),N::N::some (OB.box Attrs.zv)::N::N::N::some (OB.box [AV.d (D.i v26),AV.d (D.l 2 Segment.toD v27),AV.d (D.b v28),AV.d (D.u64 v29),AV.d (D.u64 v30),AV.d (D.i v31),AV.d (D.i v32),AV.d (D.i v33),AV.d (D.l 2 Community.toD v274),AV.d (D.l 3 Large.toD v35),AV.d (D.nil 3)])::N::some (OB.box (Unknown.av x38))::nn 107 (some (OB.box (Unknown.av x38))::nn 196 ([]))⟩) ?_ ?_
                         ·exact wk
                         rintro next275 ⟨v273,v274⟩ K276 h hK277;(conv=>whnf);refine .go ?_;revert h;refine sel_if ?_ ?_<;>intro h
                         ·(conv=>whnf);refine .go ?_;(conv=>whnf);refine .inl (dOB (by kernel_rfl) ?_);refine ⟨_,rfl,?_⟩;obtain ⟨v278,g279,h⟩:=bind_inv h;refine ⟨part_b (f:=D.u8) g279,_,part_z (f:=D.u8) g279,?_⟩;obtain ⟨v280,g281,h⟩:=bind_inv h;refine ⟨_,_,ref18_number_ok g281,.inl rfl,?_⟩;refine ⟨_,rfl,?_⟩;refine ⟨_,rfl,?_⟩;obtain ⟨v282,g283,h⟩:=bind_inv h;refine ⟨part_b (f:=D.u8) g283,_,part_z (f:=D.u8) g283,?_⟩;obtain ⟨v284,g285,h⟩:=bind_inv h;refine ⟨_,_,ref18_number_ok g285,.inl rfl,?_⟩;obtain ⟨⟨v286,v287⟩,g288,h⟩:=bind_inv h;refine ⟨_,_,ref17_Add_ok g288,.inl rfl,?_⟩;(conv=>whnf);refine cOB (by kernel_rfl) ?_;refine ⟨_,rfl,?_⟩;exact hK277 _ _ wk h
                         ·exact join_end wk h
                        ·rintro v271 h;exact join_end wk h
                     ·revert h;refine cut_join (fun v289=>⟨dd 200 ([]),N::N::some (OB.box Attrs.zv)::N::N::N::some (OB.box [AV.d (D.i v26),AV.d (D.l 2 Segment.toD v27),AV.d (D.b v28),AV.d (D.u64 v29),AV.d (D.u64 v30),AV.d (D.i v31),AV.d (D.i v32),AV.d (D.i v33),AV.d (D.l 2 Community.toD v34),AV.d (D.l 3 Large.toD v289),AV.d (D.nil 3)])::N::some (OB.box (Unknown.av x38))::nn 304 ([])⟩) ?_ ?_
                      ·intro k290 h;revert h;refine sel_if ?_ ?_<;>intro h
                       ·revert h;refine cut_join (fun v291=>⟨AV.ref 6 0::X::X::AV.ref 116 0::X::AV.d (D.i (x38.Data.length:Int))::dd 153 (AV.d (D.b v291)::dd 40 ([])),N::N::some (OB.box Attrs.zv)::N::N::N::some (OB.box [AV.d (D.i v26),AV.d (D.l 2 Segment.toD v27),AV.d (D.b v28),AV.d (D.u64 v29),AV.d (D.u64 v30),AV.d (D.i v31),AV.d (D.i v32),AV.d (D.i v33),AV.d (D.l 2 Community.toD v34),AV.d (D.l 3 Large.toD v35),AV.d (D.nil 3)])::N::some (OB.box (Unknown.av x38))::nn 107 (some (OB.box (Unknown.av x38))::nn 196 ([]))⟩) ?_ ?_
                        ·intro k292 h;revert h;refine sel_if ?_ ?_<;>intro h
                         ·exact join_end wk h
                         ·refine ⟨by decide,_,rfl,?_⟩;revert h;refine sel_if ?_ ?_<;>intro h
                          ·exact join_end wk h
                          ·refine ⟨by decide,_,rfl,?_⟩;exact join_end wk h
                        ·rintro v291 h;(conv=>whnf);refine .go ?_;revert h;refine sel_if ?_ ?_<;>intro h
                         ·exact join_end wk h
                         ·revert h;refine cut_join (fun v293=>⟨dd 200 ([]),N::N::some (OB.box Attrs.zv)::N::N::N::some (OB.box [AV.d (D.i v26),AV.d (D.l 2 Segment.toD v27),AV.d (D.b v28),AV.d (D.u64 v29),AV.d (D.u64 v30),AV.d (D.i v31),AV.d (D.i v32),AV.d (D.i v33),AV.d (D.l 2 Community.toD v34),AV.d (D.l 3 Large.toD v293),AV.d (D.nil 3)])::N::some (OB.box (Unknown.av x38))::nn 304 ([])⟩) ?_ ?_
                          ·intro k294 h;revert h;refine loop_while (fun (v295,v296)=>⟨AV.ref 6 0::X::X::AV.ref 116 0::X::AV.d (D.i (x38.Data.length:Int))::dd 4 (AV.d (D.i v295)::dd 189 ([])),N::N::some (OB.box Attrs.zv)::N::N::N::some (OB.box [AV.d (D.i v26),AV.d (D.l 2 Segment.toD v27),AV.d (D.b v28),AV.d (D.u64 v29),AV.d (D.u64 v30),AV.d (D.i v31),AV.d (D.i v32),AV.d (D.i v33),AV.d (D.l 2 Community.toD v34),AV.d (D.l 3 Large.toD v296),AV.d (D.nil 3)])::N::some (OB.box (Unknown.av x38))::nn 107 (some (OB.box (Unknown.av x38))::nn 196 ([]))⟩) ?_ ?_
                           ·exact wk
                           rintro next297 ⟨v295,v296⟩ K298 h hK299;(conv=>whnf);refine .go ?_;revert h;refine sel_if ?_ ?_<;>intro h
                           ·(conv=>whnf);refine .go ?_;(conv=>whnf);refine .inl (dOB (by kernel_rfl) ?_);refine ⟨_,rfl,?_⟩;obtain ⟨v300,g301,h⟩:=bind_inv h;refine ⟨part_b (f:=D.u8) g301,_,part_z (f:=D.u8) g301,?_⟩;obtain ⟨v302,g303,h⟩:=bind_inv h;refine ⟨_,_,ref18_number_ok g303,.inl rfl,?_⟩;refine ⟨_,rfl,?_⟩;refine ⟨_,rfl,?_⟩;obtain ⟨v304,g305,h⟩:=bind_inv h;refine ⟨part_b (f:=D.u8) g305,_,part_z (f:=D.u8) g305,?_⟩;obtain ⟨v306,g307,h⟩:=bind_inv h;refine ⟨_,_,ref18_number_ok g307,.inl rfl,?_⟩;refine ⟨_,rfl,?_⟩;refine ⟨_,rfl,?_⟩;obtain ⟨v308,g309,h⟩:=bind_inv h;refine ⟨part_b (f:=D.u8) g309,_,part_z (f:=D.u8) g309,?_⟩;obtain ⟨v310,g311,h⟩:=bind_inv h;refine ⟨_,_,ref18_number_ok g311,.inl rfl,?_⟩;obtain ⟨⟨v312,v313⟩,g314,h⟩:=bind_inv h;refine ⟨_,_,ref17_AddLarge_ok g314,.inl rfl,?_⟩;(conv=>whnf);refine cOB (by kernel_rfl) ?_;refine ⟨_,rfl,?_⟩;exact hK299 _ _ wk h
                           ·exact join_end wk h
                          ·rintro v293 h;exact join_end wk h
                       ·exact join_end wk h
                      ·rintro v289 h;exact join_end wk h
                    ·rintro ⟨v266,v267⟩ h;exact join_end wk h
                  ·rintro ⟨v247,v248,v249,v250,v251⟩ h;exact join_end wk h
               ·rintro ⟨v231,v232,v233,v234,v235,v236,v237,v238⟩ h;exact join_end wk h
            ·rintro ⟨v212,v213,v214,v215,v216,v217,v218,v219,v220⟩ h;exact join_end wk h
           ·rintro ⟨v202,v203,v204,v205,v206,v207,v208,v209,v210⟩ h;exact join_end wk h
          ·rintro ⟨v190,v191,v192,v193,v194,v195,v196,v197,v198,v199,v200⟩ h;exact join_end wk h
       ·rintro ⟨v53,v54,v55,v56,v57,v58,v59,v60,v61,v62,v63⟩ h;(conv=>whnf);refine .go ?_;revert h;refine sel_if ?_ ?_<;>intro h
        ·cases h;exact ⟨rfl,rfl⟩
        ·exact join_end wk h
     ·rintro ⟨v40,v41,v42,v43,v44,v45,v46,v47,v48,v49⟩ h;refine ⟨_,hwi25,?_⟩;exact hK39 _ _ wk h
   ·rintro ⟨v14,v15,v16,v17,v18,v19,v20,v21,v22,v23⟩ h;revert h;refine cut_join (fun v315=>⟨X::X::AV.ref 2 0::X::X::X::AV.ref 6 0::dd 106 ([]),N::N::some (OB.box Attrs.zv)::N::N::N::some (OB.box [AV.d (D.i v14),AV.d (D.l 2 Segment.toD v15),AV.d (D.b v16),AV.d (D.u64 v17),AV.d (D.u64 v18),AV.d (D.i v19),AV.d (D.i v20),AV.d (D.i v21),AV.d (D.l 2 Community.toD v22),AV.d (D.l 3 Large.toD v23),AV.own 104 (List.map Unknown.toD v315).length])::nn 97 (some (OB.row 30 3 (List.map Unknown.toD v315) .no)::nn 208 ([]))⟩) ?_ ?_
    ·intro k316 h;revert h;refine loop_while (fun (v317,v318)=>⟨AV.d (D.l 3 Unknown.toD v1)::X::AV.ref 2 0::X::X::X::AV.ref 6 0::X::X::X::AV.d (D.i v317)::dd 102 ([]),N::N::some (OB.box Attrs.zv)::N::N::N::some (OB.box [AV.d (D.i v14),AV.d (D.l 2 Segment.toD v15),AV.d (D.b v16),AV.d (D.u64 v17),AV.d (D.u64 v18),AV.d (D.i v19),AV.d (D.i v20),AV.d (D.i v21),AV.d (D.l 2 Community.toD v22),AV.d (D.l 3 Large.toD v23),AV.own 104 (List.map Unknown.toD v318).length])::nn 97 (some (OB.row 30 3 (List.map Unknown.toD v318) .no)::nn 208 ([]))⟩) ?_ ?_
     ·exact wk
     rintro next319 ⟨v317,v318⟩ K320 h hK321;(conv=>whnf);refine .go ?_;revert h;refine sel_if ?_ ?_<;>intro h
     ·revert h;refine cut_join (fun v322=>⟨AV.d (D.l 3 Unknown.toD v1)::X::AV.ref 2 0::X::X::X::AV.ref 6 0::X::X::X::AV.d (D.i v317)::dd 102 ([]),N::N::some (OB.box Attrs.zv)::N::N::N::some (OB.box [AV.d (D.i v14),AV.d (D.l 2 Segment.toD v15),AV.d (D.b v16),AV.d (D.u64 v17),AV.d (D.u64 v18),AV.d (D.i v19),AV.d (D.i v20),AV.d (D.i v21),AV.d (D.l 2 Community.toD v22),AV.d (D.l 3 Large.toD v23),AV.own 104 (List.map Unknown.toD v322).length])::nn 97 (some (OB.row 30 3 (List.map Unknown.toD v322) .no)::nn 208 ([]))⟩) ?_ ?_
      ·intro k323 h;refine ⟨v1.length,List.length_map _,?_⟩;revert h;refine cut_join (fun v324=>⟨AV.d (D.l 3 Unknown.toD v1)::X::AV.ref 2 0::X::X::X::AV.ref 6 0::X::X::X::AV.d (D.i v317)::dd 102 ([]),N::N::some (OB.box Attrs.zv)::N::N::N::some (OB.box [AV.d (D.i v14),AV.d (D.l 2 Segment.toD v15),AV.d (D.b v16),AV.d (D.u64 v17),AV.d (D.u64 v18),AV.d (D.i v19),AV.d (D.i v20),AV.d (D.i v21),AV.d (D.l 2 Community.toD v22),AV.d (D.l 3 Large.toD v23),AV.own 104 (List.map Unknown.toD v324).length])::nn 97 (some (OB.row 30 3 (List.map Unknown.toD v324) .no)::nn 208 ([]))⟩) ?_ ?_
       ·intro k325 h;revert h;refine loop_for 70 3 Unknown.toD rfl (fun i326 v327=>⟨AV.d (D.l 3 Unknown.toD v1)::X::AV.ref 2 0::X::X::X::AV.ref 6 0::X::X::X::AV.d (D.i v317)::dd 59 (AV.d (D.l 3 Unknown.toD v1)::AV.d (D.i (v1.length:Int))::AV.d (D.i (i326:Int))::dd 40 ([])),N::N::some (OB.box Attrs.zv)::N::N::N::some (OB.box [AV.d (D.i v14),AV.d (D.l 2 Segment.toD v15),AV.d (D.b v16),AV.d (D.u64 v17),AV.d (D.u64 v18),AV.d (D.i v19),AV.d (D.i v20),AV.d (D.i v21),AV.d (D.l 2 Community.toD v22),AV.d (D.l 3 Large.toD v23),AV.own 104 (List.map Unknown.toD v327).length])::nn 97 (some (OB.row 30 3 (List.map Unknown.toD v327) .no)::nn 208 ([]))⟩) ?_ ?_ ?_
        ·exact wk
        ·rintro v327 K328 h;(conv=>whnf);refine .go ?_;(conv=>whnf);refine sel_f lt_f ?_;exact join_end wk h
        ·rintro next329 i326 x330 v327 K328 hii326 hxi326 hwi326 h hK331;(conv=>whnf);refine .go ?_;(conv=>whnf);refine sel_t (lt_t hii326) ?_;(conv=>whnf);refine .go ?_;refine ⟨idx_b (f:=Unknown.toD) hii326,Unknown.toD x330,hxi326,rfl,?_⟩;revert h;refine cut_join (fun v332=>⟨AV.d (D.l 3 Unknown.toD v1)::X::AV.ref 2 0::X::X::X::AV.ref 6 0::X::X::X::AV.d (D.i v317)::X::AV.ref 12 0::dd 57 (AV.d (D.l 3 Unknown.toD v1)::AV.d (D.i (v1.length:Int))::AV.d (D.i (i326:Int))::dd 22 (AV.d (D.b v332)::dd 17 ([]))),N::N::some (OB.box Attrs.zv)::N::N::N::some (OB.box [AV.d (D.i v14),AV.d (D.l 2 Segment.toD v15),AV.d (D.b v16),AV.d (D.u64 v17),AV.d (D.u64 v18),AV.d (D.i v19),AV.d (D.i v20),AV.d (D.i v21),AV.d (D.l 2 Community.toD v22),AV.d (D.l 3 Large.toD v23),AV.own 104 (List.map Unknown.toD v327).length])::nn 5 (some (OB.box (Unknown.av x330))::nn 91 (some (OB.row 30 3 (List.map Unknown.toD v327) .no)::nn 208 ([])))⟩) ?_ ?_
         ·intro k333 h;revert h;refine sel_if ?_ ?_<;>intro h
          ·obtain ⟨v334,g335,h⟩:=bind_inv h;refine ⟨_,_,some [],ref18_unknown_ok g335,?_⟩;revert h;refine sel_if ?_ ?_<;>intro h
           ·refine ⟨_,rfl,?_⟩;revert h;refine sel_if ?_ ?_<;>intro h
            ·refine ⟨x330.Data.length,List.length_map _,?_⟩;exact join_end wk h
            ·exact join_end wk h
           ·exact join_end wk h
          ·exact join_end wk h
         ·rintro v332 h;revert h;refine cut_join (fun v336=>⟨AV.d (D.l 3 Unknown.toD v1)::X::AV.ref 2 0::X::X::X::AV.ref 6 0::X::X::X::AV.d (D.i v317)::dd 59 (AV.d (D.l 3 Unknown.toD v1)::AV.d (D.i (v1.length:Int))::AV.d (D.i (i326:Int))::dd 40 ([])),N::N::some (OB.box Attrs.zv)::N::N::N::some (OB.box [AV.d (D.i v14),AV.d (D.l 2 Segment.toD v15),AV.d (D.b v16),AV.d (D.u64 v17),AV.d (D.u64 v18),AV.d (D.i v19),AV.d (D.i v20),AV.d (D.i v21),AV.d (D.l 2 Community.toD v22),AV.d (D.l 3 Large.toD v23),AV.own 104 (List.map Unknown.toD v336).length])::nn 97 (some (OB.row 30 3 (List.map Unknown.toD v336) .no)::nn 208 ([]))⟩) ?_ ?_
          ·intro k337 h;revert h;refine sel_if ?_ ?_<;>intro h
           ·(conv=>whnf);refine .inl (dOB (by kernel_rfl) ?_);obtain ⟨_,g338,h⟩:=bind_inv h;refine ⟨apnd_b0 (g:=D.u8) g338,?_⟩;(conv=>whnf);refine .inl ?_;refine ⟨rfl,?_⟩;refine ⟨rfl,?_⟩;obtain ⟨v339,g340,h⟩:=bind_inv h;refine ⟨rfl,apnd_b (f:=Unknown.toD) (g:=Unknown.toD) g340,_,apnd_z (f:=Unknown.toD) g340,?_⟩;(conv=>whnf);refine cOB (by kernel_rfl) ?_;exact join_end wk h
           ·exact join_end wk h
          ·rintro v336 h;refine ⟨_,hwi326,?_⟩;exact hK331 _ _ wk h
       ·rintro v324 h;exact join_end wk h
      ·rintro v322 h;refine ⟨_,rfl,?_⟩;exact hK321 _ _ wk h
     ·exact join_end wk h
    ·rintro v315 h;refine ⟨v315.length,by first | exact List.length_map _ | rfl | (simp only [List.length_map];omega),?_⟩;(conv=>whnf);refine .go ?_;revert h;refine sel_if ?_ ?_<;>intro h
     ·cases h;exact ⟨rfl,rfl⟩
     ·refine ⟨rfl,?_⟩;cases h;exact ⟨rfl,rfl⟩
end Go.AX.Q18
end
section
namespace Go.AX.Q18
open Go Go.AX Go.Proofs
set_option maxRecDepth 100000
set_option maxHeartbeats 4000000
set_option linter.unusedVariables false
theorem ref18_SameList_ok {wl:Prop} {a0:List Unknown} {a1:List Unknown} {r:Bool} (h:ref18_SameList a0 a1=some r):CallsOK (Wl wl) Tryd.prog 25 [AV.d (D.l 3 Unknown.toD a0),AV.d (D.l 3 Unknown.toD a1)] [] (.d (D.b r)) []:=by
 refine ok Tryd.f25 (by kernel_rfl) (by kernel_rfl) ⟨rfl,?_⟩;unfold ref18_SameList at h;refine ⟨a0.length,List.length_map _,?_⟩;refine ⟨a1.length,List.length_map _,?_⟩;(conv=>whnf);refine .go ?_;revert h;refine sel_if ?_ ?_<;>intro h
 ·cases h;exact ⟨rfl,rfl⟩
 ·refine ⟨a0.length,List.length_map _,?_⟩;revert h;refine cut_join (fun _=>⟨dd 50 ([]),nn 50 ([])⟩) ?_ ?_
  ·intro k1 h;revert h;refine loop_for 12 3 Unknown.toD rfl (fun i2 _=>⟨X::AV.d (D.l 3 Unknown.toD a1)::dd 10 (AV.d (D.l 3 Unknown.toD a0)::AV.d (D.i (a0.length:Int))::AV.d (D.i (i2:Int))::dd 35 ([])),nn 50 ([])⟩) ?_ ?_ ?_
   ·exact wk
   ·rintro _ K3 h;(conv=>whnf);refine .go ?_;(conv=>whnf);refine sel_f lt_f ?_;exact join_end wk h
   ·rintro next4 i2 x5 _ K3 hii2 hxi2 hwi2 h hK6;(conv=>whnf);refine .go ?_;(conv=>whnf);refine sel_t (lt_t hii2) ?_;(conv=>whnf);refine .go ?_;refine ⟨idx_b (f:=Unknown.toD) hii2,Unknown.toD x5,hxi2,rfl,?_⟩;revert h;refine cut_join (fun v7=>⟨X::AV.d (D.l 3 Unknown.toD a1)::dd 10 (AV.d (D.l 3 Unknown.toD a0)::AV.d (D.i (a0.length:Int))::AV.d (D.i (i2:Int))::dd 33 (AV.d (D.b v7)::X::[])),nn 50 ([])⟩) ?_ ?_
    ·intro k8 h;(conv=>whnf);refine .inl (dOB (by kernel_rfl) ?_);obtain ⟨v9,g10,h⟩:=bind_inv h;refine ⟨geti_b (f:=Unknown.toD) g10,Unknown.toD v9,geti_d (f:=Unknown.toD) g10,rfl,?_⟩;revert h;refine sel_if ?_ ?_<;>intro h
     ·(conv=>whnf);refine cOB (by kernel_rfl) ?_;exact join_end wk h
     ·obtain ⟨v11,g12,h⟩:=bind_inv h;refine ⟨geti_b (f:=Unknown.toD) g12,Unknown.toD v11,geti_d (f:=Unknown.toD) g12,rfl,?_⟩;revert h;refine sel_if ?_ ?_<;>intro h
      ·(conv=>whnf);refine cOB (by kernel_rfl) ?_;exact join_end wk h
      ·refine ⟨x5.Data,rfl,?_⟩;obtain ⟨v13,g14,h⟩:=bind_inv h;refine ⟨geti_b (f:=Unknown.toD) g14,Unknown.toD v13,geti_d (f:=Unknown.toD) g14,rfl,?_⟩;refine ⟨v13.Data,rfl,?_⟩;(conv=>whnf);refine cOB (by kernel_rfl) ?_;exact join_end wk h
    ·rintro v7 h;(conv=>whnf);refine .go ?_;revert h;refine sel_if ?_ ?_<;>intro h
     ·cases h;exact ⟨rfl,rfl⟩
     ·refine ⟨_,hwi2,?_⟩;exact hK6 _ _ wk h
  ·rintro _ h;cases h;exact ⟨rfl,rfl⟩
theorem ref15_Same_ok {wl:Prop} {a0:List Segment} {a1:List Segment} {r:Bool} (h:ref15_Same a0 a1=some r):CallsOK (Wl wl) Tryd.prog 47 [AV.d (D.l 2 Segment.toD a0),AV.d (D.l 2 Segment.toD a1)] [] (.d (D.b r)) []:=by
 refine ok Tryd.f47 (by kernel_rfl) (by kernel_rfl) ⟨rfl,?_⟩;unfold ref15_Same at h;refine ⟨a0.length,List.length_map _,?_⟩;refine ⟨a1.length,List.length_map _,?_⟩;(conv=>whnf);refine .go ?_;revert h;refine sel_if ?_ ?_<;>intro h
 ·cases h;exact ⟨rfl,rfl⟩
 ·refine ⟨a0.length,List.length_map _,?_⟩;revert h;refine cut_join (fun _=>⟨dd 61 ([]),nn 61 ([])⟩) ?_ ?_
  ·intro k1 h;revert h;refine loop_for 14 2 Segment.toD rfl (fun i2 _=>⟨X::AV.d (D.l 2 Segment.toD a1)::dd 12 (AV.d (D.l 2 Segment.toD a0)::AV.d (D.i (a0.length:Int))::AV.d (D.i (i2:Int))::dd 44 ([])),nn 61 ([])⟩) ?_ ?_ ?_
   ·exact wk
   ·rintro _ K3 h;(conv=>whnf);refine .go ?_;(conv=>whnf);refine sel_f lt_f ?_;exact join_end wk h
   ·rintro next4 i2 x5 _ K3 hii2 hxi2 hwi2 h hK6;(conv=>whnf);refine .go ?_;(conv=>whnf);refine sel_t (lt_t hii2) ?_;revert h;refine cut_join (fun _=>⟨X::AV.d (D.l 2 Segment.toD a1)::dd 12 (AV.d (D.l 2 Segment.toD a0)::AV.d (D.i (a0.length:Int))::AV.d (D.i (i2:Int))::dd 44 ([])),nn 61 ([])⟩) ?_ ?_
    ·intro k7 h;refine ⟨idx_b (f:=Segment.toD) hii2,Segment.toD x5,hxi2,rfl,?_⟩;revert h;refine cut_join (fun v8=>⟨X::AV.d (D.l 2 Segment.toD a1)::X::X::X::AV.d (D.i (i2:Int))::AV.ref 6 0::dd 7 (AV.d (D.l 2 Segment.toD a0)::AV.d (D.i (a0.length:Int))::AV.d (D.i (i2:Int))::dd 23 (AV.d (D.b v8)::dd 20 ([]))),nn 6 (some (OB.box (Segment.av x5))::nn 54 ([]))⟩) ?_ ?_
     ·intro k9 h;(conv=>whnf);refine .inl (dOB (by kernel_rfl) ?_);obtain ⟨v10,g11,h⟩:=bind_inv h;refine ⟨geti_b (f:=Segment.toD) g11,Segment.toD v10,geti_d (f:=Segment.toD) g11,rfl,?_⟩;revert h;refine sel_if ?_ ?_<;>intro h
      ·(conv=>whnf);refine cOB (by kernel_rfl) ?_;exact join_end wk h
      ·refine ⟨x5.ASNs.length,List.length_map _,?_⟩;obtain ⟨v12,g13,h⟩:=bind_inv h;refine ⟨geti_b (f:=Segment.toD) g13,Segment.toD v12,geti_d (f:=Segment.toD) g13,rfl,?_⟩;refine ⟨v12.ASNs.length,List.length_map _,?_⟩;(conv=>whnf);refine cOB (by kernel_rfl) ?_;exact join_end wk h
     ·rintro v8 h;(conv=>whnf);refine .go ?_;revert h;refine sel_if ?_ ?_<;>intro h
      ·cases h;exact ⟨rfl,rfl⟩
      ·refine ⟨x5.ASNs.length,List.length_map _,?_⟩;revert h;refine cut_join (fun _=>⟨X::AV.d (D.l 2 Segment.toD a1)::dd 12 (AV.d (D.l 2 Segment.toD a0)::AV.d (D.i (a0.length:Int))::AV.d (D.i (i2:Int))::dd 44 ([])),nn 61 ([])⟩) ?_ ?_
       ·intro k14 h;revert h;refine loop_for 42 1 D.i rfl (fun i15 _=>⟨X::AV.d (D.l 2 Segment.toD a1)::X::X::X::AV.d (D.i (i2:Int))::dd 8 (AV.d (D.l 2 Segment.toD a0)::AV.d (D.i (a0.length:Int))::AV.d (D.i (i2:Int))::dd 25 (AV.d (D.l 1 D.i x5.ASNs)::AV.d (D.i (x5.ASNs.length:Int))::AV.d (D.i (i15:Int))::dd 16 ([]))),nn 61 ([])⟩) ?_ ?_ ?_
        ·exact wk
        ·rintro _ K16 h;(conv=>whnf);refine .go ?_;(conv=>whnf);refine sel_f lt_f ?_;exact join_end wk h
        ·rintro next17 i15 x18 _ K16 hii15 hxi15 hwi15 h hK19;(conv=>whnf);refine .go ?_;(conv=>whnf);refine sel_t (lt_t hii15) ?_;(conv=>whnf);refine .go ?_;refine ⟨idx_b (f:=D.i) hii15,D.i x18,hxi15,rfl,?_⟩;obtain ⟨v20,g21,h⟩:=bind_inv h;refine ⟨geti_b (f:=Segment.toD) g21,Segment.toD v20,geti_d (f:=Segment.toD) g21,rfl,?_⟩;obtain ⟨v22,g23,h⟩:=bind_inv h;refine ⟨geti_b (f:=D.i) g23,D.i v22,geti_d (f:=D.i) g23,rfl,?_⟩;(conv=>whnf);refine .go ?_;revert h;refine sel_if ?_ ?_<;>intro h
         ·cases h;exact ⟨rfl,rfl⟩
         ·refine ⟨_,hwi15,?_⟩;exact hK19 _ _ wk h
       ·rintro _ h;exact join_end wk h
    ·rintro _ h;refine ⟨_,hwi2,?_⟩;exact hK6 _ _ wk h
  ·rintro _ h;cases h;exact ⟨rfl,rfl⟩
theorem ref17_Same_ok {wl:Prop} {a0:List Community} {a1:List Community} {r:Bool} (h:ref17_Same a0 a1=some r):CallsOK (Wl wl) Tryd.prog 48 [AV.d (D.l 2 Community.toD a0),AV.d (D.l 2 Community.toD a1)] [] (.d (D.b r)) []:=by
 refine ok Tryd.f48 (by kernel_rfl) (by kernel_rfl) ⟨rfl,?_⟩;unfold ref17_Same at h;refine ⟨a0.length,List.length_map _,?_⟩;refine ⟨a1.length,List.length_map _,?_⟩;(conv=>whnf);refine .go ?_;revert h;refine sel_if ?_ ?_<;>intro h
 ·cases h;exact ⟨rfl,rfl⟩
 ·refine ⟨a0.length,List.length_map _,?_⟩;revert h;refine cut_join (fun _=>⟨dd 26 ([]),nn 26 ([])⟩) ?_ ?_
  ·intro k1 h;revert h;refine loop_for 12 2 Community.toD rfl (fun i2 _=>⟨X::AV.d (D.l 2 Community.toD a1)::dd 10 (AV.d (D.l 2 Community.toD a0)::AV.d (D.i (a0.length:Int))::AV.d (D.i (i2:Int))::dd 11 ([])),nn 26 ([])⟩) ?_ ?_ ?_
   ·exact wk
   ·rintro _ K3 h;(conv=>whnf);refine .go ?_;(conv=>whnf);refine sel_f lt_f ?_;exact join_end wk h
   ·rintro next4 i2 x5 _ K3 hii2 hxi2 hwi2 h hK6;(conv=>whnf);refine .go ?_;(conv=>whnf);refine sel_t (lt_t hii2) ?_;(conv=>whnf);refine .go ?_;refine ⟨idx_b (f:=Community.toD) hii2,Community.toD x5,hxi2,rfl,?_⟩;(conv=>whnf);refine .inl (dOB (by kernel_rfl) ?_);obtain ⟨v7,g8,h⟩:=bind_inv h;refine ⟨geti_b (f:=Community.toD) g8,Community.toD v7,geti_d (f:=Community.toD) g8,rfl,?_⟩;(conv=>whnf);refine cOB (by kernel_rfl) ?_;(conv=>whnf);refine .go ?_;revert h;refine sel_if ?_ ?_<;>intro h
    ·cases h;exact ⟨rfl,rfl⟩
    ·refine ⟨_,hwi2,?_⟩;exact hK6 _ _ wk h
  ·rintro _ h;cases h;exact ⟨rfl,rfl⟩
theorem ref17_SameLarge_ok {wl:Prop} {a0:List Large} {a1:List Large} {r:Bool} (h:ref17_SameLarge a0 a1=some r):CallsOK (Wl wl) Tryd.prog 49 [AV.d (D.l 3 Large.toD a0),AV.d (D.l 3 Large.toD a1)] [] (.d (D.b r)) []:=by
 refine ok Tryd.f49 (by kernel_rfl) (by kernel_rfl) ⟨rfl,?_⟩;unfold ref17_SameLarge at h;refine ⟨a0.length,List.length_map _,?_⟩;refine ⟨a1.length,List.length_map _,?_⟩;(conv=>whnf);refine .go ?_;revert h;refine sel_if ?_ ?_<;>intro h
 ·cases h;exact ⟨rfl,rfl⟩
 ·refine ⟨a0.length,List.length_map _,?_⟩;revert h;refine cut_join (fun _=>⟨dd 26 ([]),nn 26 ([])⟩) ?_ ?_
  ·intro k1 h;revert h;refine loop_for 12 3 Large.toD rfl (fun i2 _=>⟨X::AV.d (D.l 3 Large.toD a1)::dd 10 (AV.d (D.l 3 Large.toD a0)::AV.d (D.i (a0.length:Int))::AV.d (D.i (i2:Int))::dd 11 ([])),nn 26 ([])⟩) ?_ ?_ ?_
   ·exact wk
   ·rintro _ K3 h;(conv=>whnf);refine .go ?_;(conv=>whnf);refine sel_f lt_f ?_;exact join_end wk h
   ·rintro next4 i2 x5 _ K3 hii2 hxi2 hwi2 h hK6;(conv=>whnf);refine .go ?_;(conv=>whnf);refine sel_t (lt_t hii2) ?_;(conv=>whnf);refine .go ?_;refine ⟨idx_b (f:=Large.toD) hii2,Large.toD x5,hxi2,rfl,?_⟩;(conv=>whnf);refine .inl (dOB (by kernel_rfl) ?_);obtain ⟨v7,g8,h⟩:=bind_inv h;refine ⟨geti_b (f:=Large.toD) g8,Large.toD v7,geti_d (f:=Large.toD) g8,rfl,?_⟩;(conv=>whnf);refine cOB (by kernel_rfl) ?_;(conv=>whnf);refine .go ?_;revert h;refine sel_if ?_ ?_<;>intro h
    ·cases h;exact ⟨rfl,rfl⟩
    ·refine ⟨_,hwi2,?_⟩;exact hK6 _ _ wk h
  ·rintro _ h;cases h;exact ⟨rfl,rfl⟩
theorem ref18_Same_ok {wl:Prop} {a0:Attrs} {a1:Attrs} {r:Bool} (h:ref18_Same a0 a1=some r):CallsOK (Wl wl) Tryd.prog 14 [AV.d (Attrs.toD a0),AV.d (Attrs.toD a1)] [] (.d (D.b r)) []:=by
 refine ok Tryd.f14 (by kernel_rfl) (by kernel_rfl) ⟨rfl,?_⟩;unfold ref18_Same at h;revert h;refine cut_join (fun v1=>⟨dd 4 (AV.d (D.b v1)::dd 61 ([])),nn 66 ([])⟩) ?_ ?_
 ·intro k2 h;revert h;refine sel_if ?_ ?_<;>intro h
  ·obtain ⟨v3,g4,h⟩:=bind_inv h;refine ⟨_,_,some [],ref15_Same_ok g4,?_⟩;revert h;refine sel_if ?_ ?_<;>intro h
   ·revert h;refine sel_if ?_ ?_<;>intro h
    ·revert h;refine sel_if ?_ ?_<;>intro h
     ·revert h;refine sel_if ?_ ?_<;>intro h
      ·revert h;refine sel_if ?_ ?_<;>intro h
       ·obtain ⟨v5,g6,h⟩:=bind_inv h;refine ⟨_,_,some [],ref17_Same_ok g6,?_⟩;revert h;refine sel_if ?_ ?_<;>intro h
        ·obtain ⟨v7,g8,h⟩:=bind_inv h;refine ⟨_,_,some [],ref17_SameLarge_ok g8,?_⟩;revert h;refine sel_if ?_ ?_<;>intro h
         ·obtain ⟨v9,g10,h⟩:=bind_inv h;refine ⟨_,_,some [],ref18_SameList_ok g10,?_⟩;exact join_end wk h
         ·exact join_end wk h
        ·exact join_end wk h
       ·exact join_end wk h
      ·exact join_end wk h
     ·exact join_end wk h
    ·exact join_end wk h
   ·exact join_end wk h
  ·exact join_end wk h
 ·rintro v1 h;cases h;exact ⟨rfl,rfl⟩
theorem attribute_Split_ok {wl:Prop} {a0:List UInt8} {r:(List Unknown)×Int} (h:attribute_Split a0=some r):CallsOK (Wl wl) Tryd.prog 19 [AV.d (D.l 1 D.u8 a0)] [] (.tup [.d (D.l 3 Unknown.toD r.1),.d (D.i r.2)]) []:=by
 refine ok Tryd.f19 (by kernel_rfl) (by kernel_rfl) ⟨rfl,?_⟩;unfold attribute_Split at h;revert h;refine cut_join (fun v1=>⟨dd 4 (AV.own 4 (List.map Unknown.toD v1).length::dd 53 ([])),nn 4 (some (OB.row 30 3 (List.map Unknown.toD v1) .no)::nn 53 ([]))⟩) ?_ ?_
 ·intro k2 h;revert h;refine loop_while (fun (v3,v4)=>⟨AV.d (D.l 1 D.u8 v3)::X::X::X::AV.own 4 (List.map Unknown.toD v4).length::dd 53 ([]),nn 4 (some (OB.row 30 3 (List.map Unknown.toD v4) .no)::nn 53 ([]))⟩) ?_ ?_
  ·exact wk
  rintro next5 ⟨v3,v4⟩ K6 h hK7;refine ⟨v3.length,List.length_map _,?_⟩;(conv=>whnf);refine .go ?_;revert h;refine sel_if ?_ ?_<;>intro h
  ·(conv=>whnf);refine .go ?_;obtain ⟨v8,g9,h⟩:=bind_inv h;refine ⟨geti_b (f:=D.u8) g9,D.u8 v8,geti_d (f:=D.u8) g9,rfl,?_⟩;refine ⟨_,u8_wrap _,?_⟩;revert h;refine cut_join (fun v10=>⟨AV.d (D.l 1 D.u8 v3)::X::X::X::AV.own 4 (List.map Unknown.toD v4).length::AV.d (D.i v10)::dd 52 ([]),nn 4 (some (OB.row 30 3 (List.map Unknown.toD v4) .no)::nn 53 ([]))⟩) ?_ ?_
   ·intro k11 h;revert h;refine sel_if ?_ ?_<;>intro h
    ·exact join_end wk h
    ·exact join_end wk h
   ·rintro v10 h;revert h;refine cut_join (fun v12=>⟨AV.d (D.l 1 D.u8 v3)::X::X::X::AV.own 4 (List.map Unknown.toD v4).length::AV.d (D.i v10)::dd 23 (AV.d (D.b v12)::dd 28 ([])),nn 4 (some (OB.row 30 3 (List.map Unknown.toD v4) .no)::nn 53 ([]))⟩) ?_ ?_
    ·intro k13 h;refine ⟨v3.length,List.length_map _,?_⟩;revert h;refine sel_if ?_ ?_<;>intro h
     ·exact join_end wk h
     ·refine ⟨v3.length,List.length_map _,?_⟩;refine ⟨_,rfl,?_⟩;obtain ⟨v14,g15,h⟩:=bind_inv h;refine ⟨part_b (f:=D.u8) g15,_,part_z (f:=D.u8) g15,?_⟩;obtain ⟨v16,g17,h⟩:=bind_inv h;refine ⟨_,_,some [],attribute_get_ok g17,?_⟩;exact join_end wk h
    ·rintro v12 h;(conv=>whnf);refine .go ?_;revert h;refine sel_if ?_ ?_<;>intro h
     ·(conv=>whnf);refine .inl ?_;refine ⟨rfl,?_⟩;cases h;exact ⟨rfl,rfl⟩
     ·obtain ⟨v18,g19,h⟩:=bind_inv h;refine ⟨part_b (f:=D.u8) g19,_,part_z (f:=D.u8) g19,?_⟩;obtain ⟨v20,g21,h⟩:=bind_inv h;refine ⟨_,_,some [],attribute_get_ok g21,?_⟩;refine ⟨_,rfl,?_⟩;(conv=>whnf);refine .inl (dOB (by kernel_rfl) ?_);obtain ⟨v22,g23,h⟩:=bind_inv h;refine ⟨geti_b (f:=D.u8) g23,D.u8 v22,geti_d (f:=D.u8) g23,rfl,?_⟩;refine ⟨_,u8_wrap _,?_⟩;refine ⟨_,i64_of_u8 (toU8 ((BitVec.ofInt 8 (v22.toNat:Int) &&& BitVec.ofInt 8 224).toNat:Int)),?_⟩;obtain ⟨v24,g25,h⟩:=bind_inv h;refine ⟨geti_b (f:=D.u8) g25,D.u8 v24,geti_d (f:=D.u8) g25,rfl,?_⟩;refine ⟨_,i64_of_u8 v24,?_⟩;obtain ⟨v26,g27,h⟩:=bind_inv h;refine ⟨part_b (f:=D.u8) g27,_,part_z (f:=D.u8) g27,?_⟩;obtain ⟨_,g28,h⟩:=bind_inv h;refine ⟨apnd_b0 (g:=D.u8) g28,?_⟩;(conv=>whnf);refine .inl ?_;refine ⟨rfl,?_⟩;refine ⟨rfl,?_⟩;obtain ⟨v29,g30,h⟩:=bind_inv h;refine ⟨rfl,apnd_b (f:=Unknown.toD) (g:=Unknown.toD) g30,_,apnd_z (f:=Unknown.toD) g30,?_⟩;(conv=>whnf);refine cOB (by kernel_rfl) ?_;obtain ⟨v31,g32,h⟩:=bind_inv h;refine ⟨part_b0 (f:=D.u8) g32,_,part_z0 (f:=D.u8) g32,?_⟩;exact hK7 _ _ wk h
  ·exact join_end wk h
 ·rintro v1 h;(conv=>whnf);refine .inl ?_;refine ⟨rfl,?_⟩;cases h;exact ⟨rfl,rfl⟩
theorem law18_awake_ok {wl:Prop}  {r:Bool} (h:law18_awake=some r):CallsOK (Wl wl) Tryd.prog 15 [] [] (.d (D.b r)) []:=by
 refine ok Tryd.f15 (by kernel_rfl) (by kernel_rfl) ⟨rfl,?_⟩;unfold law18_awake at h;refine ⟨rfl,?_⟩;obtain ⟨⟨v1,v2⟩,g3,h⟩:=bind_inv h;refine ⟨_,_,some [],attribute_Split_ok g3,?_⟩;obtain ⟨⟨v4,v5⟩,g6,h⟩:=bind_inv h;refine ⟨_,_,some [],attribute_Read_ok g6,?_⟩;revert h;refine cut_join (fun v7=>⟨AV.d (D.b v7)::dd 52 ([]),nn 53 ([])⟩) ?_ ?_
 ·intro k8 h;revert h;refine sel_if ?_ ?_<;>intro h
  ·revert h;refine sel_if ?_ ?_<;>intro h
   ·revert h;refine sel_if ?_ ?_<;>intro h
    ·refine ⟨v4.Path.length,List.length_map _,?_⟩;revert h;refine sel_if ?_ ?_<;>intro h
     ·obtain ⟨v9,g10,h⟩:=bind_inv h;refine ⟨geti_b (f:=Segment.toD) g10,Segment.toD v9,geti_d (f:=Segment.toD) g10,rfl,?_⟩;obtain ⟨v11,g12,h⟩:=bind_inv h;refine ⟨geti_b (f:=D.i) g12,D.i v11,geti_d (f:=D.i) g12,rfl,?_⟩;revert h;refine sel_if ?_ ?_<;>intro h
      ·revert h;refine sel_if ?_ ?_<;>intro h
       ·exact join_end wk h
       ·exact join_end wk h
      ·exact join_end wk h
     ·exact join_end wk h
    ·exact join_end wk h
   ·exact join_end wk h
  ·exact join_end wk h
 ·rintro v7 h;cases h;exact ⟨rfl,rfl⟩
theorem law18_AttributeReads_ok {wl:Prop} {a0:List Int} {a1:Int} {a2:Int} {r:Bool} (h:law18_AttributeReads a0 a1 a2=some r):CallsOK (Wl wl) Tryd.prog 3 [AV.d (D.l 1 D.i a0),AV.d (D.i a1),AV.d (D.i a2)] [] (.d (D.b r)) []:=by
 refine ok Tryd.f3 (by kernel_rfl) (by kernel_rfl) ⟨rfl,?_⟩;unfold law18_AttributeReads at h;obtain ⟨v1,g2,h⟩:=bind_inv h;refine ⟨_,_,some [18],make_New_ok g2,?_⟩;obtain ⟨⟨v3,v4⟩,g5,h⟩:=bind_inv h;refine ⟨_,_,some [],law18_list_ok g5,?_⟩;obtain ⟨v6,g7,h⟩:=bind_inv h;refine ⟨_,_,some [],make_Mod_ok g7,?_⟩;refine ⟨_,rfl,?_⟩;revert h;refine cut_join (fun v8=>⟨X::X::AV.d (D.i a2)::dd 5 (AV.d (D.l 3 Unknown.toD v3)::AV.own 9 (List.map Unknown.toD v8).length::dd 66 ([])),nn 9 (some (OB.row 30 3 (List.map Unknown.toD v8) .no)::nn 66 ([]))⟩) ?_ ?_
 ·intro k9 h;revert h;refine loop_while (fun (v10,v11)=>⟨X::X::AV.d (D.i a2)::dd 5 (AV.d (D.l 3 Unknown.toD v3)::AV.own 9 (List.map Unknown.toD v11).length::dd 13 (AV.d (D.i (i64w (7 + v6)))::AV.d (D.i v10)::dd 51 ([]))),nn 9 (some (OB.row 30 3 (List.map Unknown.toD v11) .no)::nn 66 ([]))⟩) ?_ ?_
  ·exact wk
  rintro next12 ⟨v10,v11⟩ K13 h hK14;(conv=>whnf);refine .go ?_;revert h;refine sel_if ?_ ?_<;>intro h
  ·(conv=>whnf);refine .go ?_;refine ⟨_,rfl,?_⟩;(conv=>whnf);refine .inl ?_;refine ⟨rfl,?_⟩;refine ⟨rfl,?_⟩;obtain ⟨v15,g16,h⟩:=bind_inv h;refine ⟨rfl,apnd_b (f:=Unknown.toD) (g:=Unknown.toD) g16,_,apnd_z (f:=Unknown.toD) g16,?_⟩;refine ⟨_,rfl,?_⟩;exact hK14 _ _ wk h
  ·exact join_end wk h
 ·rintro v8 h;refine ⟨rfl,?_⟩;obtain ⟨_,g17,h⟩:=bind_inv h;refine ⟨apnd_b0 (g:=Unknown.toD) g17,?_⟩;obtain ⟨v18,g19,h⟩:=bind_inv h;refine ⟨rfl,apnd_b (f:=Unknown.toD) (g:=Unknown.toD) g19,_,apnd_z (f:=Unknown.toD) g19,?_⟩;obtain ⟨_,g20,h⟩:=bind_inv h;refine ⟨apnd_b0 (g:=Unknown.toD) g20,?_⟩;obtain ⟨v21,g22,h⟩:=bind_inv h;refine ⟨_,_,some [],make_Mod_ok g22,?_⟩;refine ⟨_,rfl,?_⟩;obtain ⟨_,g23,h⟩:=bind_inv h;refine ⟨make_b g23 (Nat.le_of_ble_eq_true rfl),D.u8 (0:UInt8),rfl,(List.map D.u8 (List.replicate (Int.toNat (i64w (254 + v21))) (0:UInt8))),List.map_replicate.symm,?_⟩;(conv=>whnf);refine .inl ?_;refine ⟨rfl,?_⟩;refine ⟨rfl,?_⟩;obtain ⟨v24,g25,h⟩:=bind_inv h;refine ⟨rfl,apnd_b (f:=Unknown.toD) (g:=Unknown.toD) g25,_,apnd_z (f:=Unknown.toD) g25,?_⟩;refine ⟨rfl,?_⟩;refine ⟨rfl,?_⟩;refine ⟨([v3,v18,v24]:List (List Unknown)).length,by first | exact List.length_map _ | rfl | (simp only [List.length_map];omega),?_⟩;revert h;refine cut_join (fun _=>⟨dd 76 ([]),nn 76 ([])⟩) ?_ ?_
  ·intro k26 h;revert h;refine loop_own 49 25 1 .no (D.l 3 Unknown.toD) rfl (fun i27 _=>⟨dd 49 (AV.own 49 (List.map (D.l 3 Unknown.toD) ([v3,v18,v24]:List (List Unknown))).length::AV.d (D.i (([v3,v18,v24]:List (List Unknown)).length:Int))::AV.d (D.i (i27:Int))::dd 24 ([])),nn 49 (some (OB.row 25 1 (List.map (D.l 3 Unknown.toD) ([v3,v18,v24]:List (List Unknown))) .no)::nn 26 ([]))⟩) ?_ ?_ ?_
   ·exact wk
   ·rintro _ K28 h;(conv=>whnf);refine .go ?_;exact join_end wk h
   ·rintro next29 i27 x30 _ K28 hii27 hxi27 hwi27 h hK31;(conv=>whnf);refine .go ?_;(conv=>whnf);refine sel_t (lt_t hii27) ?_;(conv=>whnf);refine .go ?_;refine ⟨rfl,idx_b (f:=(D.l 3 Unknown.toD)) hii27,?_⟩;refine ⟨rfl,(D.l 3 Unknown.toD) x30,hxi27,?_⟩;obtain ⟨⟨v32,v33⟩,g34,h⟩:=bind_inv h;refine ⟨_,_,some [],attribute_Read_ok g34,?_⟩;obtain ⟨⟨v35,v36⟩,g37,h⟩:=bind_inv h;refine ⟨_,_,some [],ref18_Read_ok g37,?_⟩;revert h;refine cut_join (fun v38=>⟨dd 49 (AV.own 49 (List.map (D.l 3 Unknown.toD) ([v3,v18,v24]:List (List Unknown))).length::AV.d (D.i (([v3,v18,v24]:List (List Unknown)).length:Int))::AV.d (D.i (i27:Int))::dd 21 (AV.d (D.b v38)::X::X::[])),nn 49 (some (OB.row 25 1 (List.map (D.l 3 Unknown.toD) ([v3,v18,v24]:List (List Unknown))) .no)::nn 26 ([]))⟩) ?_ ?_
    ·intro k39 h;obtain ⟨v40,g41,h⟩:=bind_inv h;refine ⟨_,_,some [],ref18_Same_ok g41,?_⟩;revert h;refine sel_if ?_ ?_<;>intro h
     ·exact join_end wk h
     ·exact join_end wk h
    ·rintro v38 h;(conv=>whnf);refine .go ?_;revert h;refine sel_if ?_ ?_<;>intro h
     ·cases h;exact ⟨rfl,rfl⟩
     ·refine ⟨_,hwi27,?_⟩;exact hK31 _ _ wk h
  ·rintro _ h;obtain ⟨v42,g43,h⟩:=bind_inv h;refine ⟨_,_,some [],law18_awake_ok g43,?_⟩;cases h;exact ⟨rfl,rfl⟩
end Go.AX.Q18
end
section
namespace Go.AX.Q18
open Go Go.AX Go.Proofs
set_option maxRecDepth 100000
set_option maxHeartbeats 4000000
set_option linter.unusedVariables false
end Go.AX.Q18
end
section
namespace Go.AX.Q18
open Go Go.AX Go.Proofs
set_option maxRecDepth 100000
set_option maxHeartbeats 4000000
set_option linter.unusedVariables false
end Go.AX.Q18
end
section
namespace Go.AX.Q18
open Go Go.AX Go.Proofs
set_option maxRecDepth 100000
set_option maxHeartbeats 4000000
set_option linter.unusedVariables false
end Go.AX.Q18
end
section
namespace Go.AX.Q18
open Go Go.AX Go.Proofs
set_option maxRecDepth 100000
set_option maxHeartbeats 4000000
set_option linter.unusedVariables false
end Go.AX.Q18
end
section
namespace Go.AX.Q18
open Go Go.AX Go.Proofs
set_option maxRecDepth 100000
set_option maxHeartbeats 4000000
set_option linter.unusedVariables false
end Go.AX.Q18
end
